import Derived.Test.YtodilglobhifaaaGreatDoorX22
set_option linter.all false
set_option maxHeartbeats 0
set_option maxRecDepth 20000
open List renaming cons_append→ew,nil_append→dx,mem_append→bE,mem_singleton→bK,getD_eq_getElem?_getD→ax,getElem?_eq_none→fO,drop_eq_nil_of_le→dW
open Nat renaming lt_or_ge→dr,mul_le_mul→EZ,zero_le→aS,add_mul→eB,one_mul→sA,reduceBEq→oT
open Bool renaming and_eq_true→bb
open Go Go.Am Go.Proofs
namespace T
def fV(L:List Int)(k:Nat):Ob:=.var [.tree 1 (ints L),aam k]
def D3(m:ah):List AV:=[.tree 1 (rowsOf bw m.cls),.ref 1 4 0 m.aj.length,.tree 4 (rowsOf cN m.aI),aam m.rules]
def ab0{P:Program}{f:FuncId}{args:List AV}{aa:List Ob}{fA TI:AV->List Ob->Prop}(h:di P f args aa fA)(ht:∀ r os,fA r os->∃ r2 cj,TI r2 cj/\aC aa.length ⟨λk=>[r].getD k .undef,os⟩ ⟨λk=>[r2].getD k .undef,cj⟩):di P f args aa TI:=by
 refine⟨h.1,λγ lB oy=>Calls.mono (h.2 γ lB oy) ?_⟩;rintro e w'⟨res,aZ,cv,ay,h0,h1,h2,h3,h4,h5⟩;obtain⟨r2,cj,hp,ht⟩:=ht res aZ h0;obtain⟨zK,a1,a2,a3,a4⟩:=ht aa γ ay rfl h4 h5;exact⟨r2,cj,cv,zK,hp,h1,a1.trans h2,a2.trans h3,a3,a4⟩
def ab1(m:ah)(o:Ob)(ho:∀ ρ,bD ρ o=o):aC 1 ⟨λk=>[AV.agg (D3 m)].getD k .undef,[o,.arr 4 (rowsOf aO m.aj)]⟩ ⟨λk=>[AV.agg (aB m)].getD k .undef,[o]⟩:=by
 have e:∀ x:AV,(λk=>[x].getD k AV.undef)=ao [(0,x)]:=λx=>by
  funext k;cases k<;>rfl
 rw[e (.agg (aB m))];refine aC.ae [0] true _ _ aac ⟨⟨Jy,.inr (by rw[ho];rfl)⟩,trivial⟩ aac (λi hi=>by
  obtain rfl:i=0:=Bv;rfl) ⟨?_,trivial⟩
 refine(bt.agg _ _ rfl (kJ.spec (R:=bt _ _ _ _) (cs:=aB m) (ds:=D3 m) ⟨.pure rfl,bt.bV rfl (nD _) (by rw[cK]) (nE aac) (sV _),.pure rfl,.pure rfl,trivial⟩).2)
def ab2 (L:List Int) (k:Nat) (iu options:Nat) (hk:k<=L.length) (hL:L.length<1000000) (hc:iu<=24) (ho:options<=24) (D5:1<=options) :
    di Tryz.prog 20 [.ptr 0 0 0,aam iu,aam options] [fV L k] (λr os=>∃ m k',MM m iu options/\k'<=L.length/\r=.agg (D3 m)/\os=[fV L k',.arr 4 (rowsOf aO m.aj)]):=by
  unfold fV
  refine di.aL 199 1 [.cell 6 32] Tryz.func20 ?_
  ((refine Vb X0 ?_)<;>try with_reducible intro K hK)
  refine fw [0] (j' L k 4 (by unfold eN;omega) hk hL) aac ⟨rfl,trivial⟩ ⟨.eq rfl,.pure rfl,trivial⟩ ?_
  have hv:=ke (L:=L) (k:=k) (n:=4) Bv
  have bd:=fQ hk
  generalize dX L k 4=v at *
  generalize db L k=k2 at *
  clear hk
  ((try revert hK K);(refine Vb X0 ?_)<;>try with_reducible intro K hK)
  refine fw [0] (j' L k2 (iu+1) (by unfold eN;omega) bd hL) aac ⟨rfl,trivial⟩ ⟨.eq rfl,.pure rfl,trivial⟩ ?_
  have AZ:=ke (L:=L) (k:=k2) (n:=iu+1) Bv
  have iW:=fQ bd
  generalize dX L k2 (iu+1)=n at *
  generalize db L k2=k3 at *
  clear bd
  obtain ⟨c0,rfl⟩ :∃c0:Nat,n=c0:=⟨n.toNat,Bv⟩
  generalize hR:1+v=R
  have vW:1<=R/\R<=4:=Bv
  ((try revert hK K);(refine Vb X0 ?_))
  refine aW (λz:Nat×Nat×List (List bF)=>(⟨ao [(0,.ptr 0 0 0),(2,aam options),(6,.ptr 1 0 0),(7,.ptr 2 0 0),(8,aam z.1)],cd L z.2.1 z.2.2 [] [] R⟩:St))
    (λz=>z.1+z.2.2.length<=iu/\z.2.1<=L.length/\∀ l∈z.2.2,(1<=l.length/\l.length<=options)/\RA R l) (λz=>z.1) (c0,k3,[]) ⟨aak,iW,Jy⟩ ?_ ?_
  · refine aC.trans (aC.nH 2 0 1 rfl rfl aac) ?_
    refine aC.trans (aC.nH 2 1 4 rfl rfl aac) ?_
    refine aC.trans (aC.nH 2 2 4 rfl rfl aac) ?_
    exact Xv X0
  clear AZ iW
  rintro ⟨c,k,cls⟩ ⟨bC,hk,kD⟩ Ql an aw
  dsimp only at bC hk kD ⊢
  unfold cd
  by_cases jO:0<c
  · obtain ⟨c',rfl⟩ :∃c',c=c'+1:=⟨c - 1,Bv⟩
    have iK:((c'+1:Nat):Int) - 1=c':=Bv
    ((repeat' (first|refine Va X0 ?_|(refine Xi ?_ ?_<;>try intro ht)|exact Xx|fail))<;>try with_reducible intro K hK)
    refine fw [0] (j' L k options (by unfold eN;omega) hk hL) aac ⟨rfl,trivial⟩ ⟨.eq rfl,.pure rfl,trivial⟩ ?_
    have AZ:=ke (L:=L) (k:=k) (n:=options) Bv
    have bd:=fQ hk
    generalize dX L k options=n at *
    generalize db L k=k2 at *
    clear hk
    obtain ⟨e0,lA⟩ :∃e0:Nat,1+n=e0:=⟨(1+n).toNat,Bv⟩
    ((try revert hK K);(refine Va @lA ?_))
    refine aW (λz:Nat×Nat×List bF=>(⟨ao [(0,.ptr 0 0 0),(2,aam options),(6,.ptr 1 0 0),(7,.ptr 2 0 0),(8,aam (c'+1:Nat)),(9,.ref 6 6 0 z.2.2.length),(10,aam z.1)],cd L z.2.1 cls [] [] R++[.arr 6 (rowsOf bG z.2.2)]⟩:St))
      (λz=>z.1+z.2.2.length=e0/\z.2.1<=L.length/\RA R z.2.2) (λz=>z.1) (e0,k2,[]) ⟨Jy,bd,by intro o ho;simp at ho⟩ ?_ ?_
    · refine aC.trans (aC.nil 9 6 (by simp only[Kc,simprocAttr]) aac) ?_
      unfold cd
      exact Xv X0
    clear bd
    rintro ⟨e,k,l⟩ ⟨tq,hk,hl⟩ dh bc bz
    dsimp only at tq hk hl ⊢
    unfold cd
    simp only[ew,dx]
    by_cases PL:0<e
    · obtain ⟨e',rfl⟩ :∃e',e=e'+1:=⟨e - 1,Bv⟩
      have vU:((e'+1:Nat):Int) - 1=e':=Bv
      ((repeat' (first|refine Va X0 ?_|(refine Xi ?_ ?_<;>try intro ht)|exact Xx|fail))<;>try with_reducible intro K hK)
      refine fw [0] (j' L k 3 (by unfold eN;omega) hk hL) aac ⟨rfl,trivial⟩ ⟨.eq rfl,.pure rfl,trivial⟩ ?_
      have ll:=ke (L:=L) (k:=k) (n:=3) Bv
      have bd:=fQ hk
      generalize dX L k 3=n1 at *
      generalize db L k=k2 at *
      clear hk
      ((try revert hK K);(refine Va X0 ?_)<;>try with_reducible intro K hK)
      refine fw [0] (j' L k2 2 (by unfold eN;omega) bd hL) aac ⟨rfl,trivial⟩ ⟨.eq rfl,.pure rfl,trivial⟩ ?_
      have hk:=fQ bd
      generalize dX L k2 2=n2 at *
      generalize db L k2=k at *
      clear bd
      ((try revert hK K);(refine Va X0 ?_)<;>try with_reducible intro K hK)
      refine fw [0] (j' L k 3 (by unfold eN;omega) hk hL) aac ⟨rfl,trivial⟩ ⟨.eq rfl,.pure rfl,trivial⟩ ?_
      have bd:=fQ hk
      generalize dX L k 3=n3 at *
      generalize db L k=k2 at *
      clear hk
      ((try revert hK K);(refine Va X0 ?_)<;>try with_reducible intro K hK)
      refine fw [0] (j' L k2 3 (by unfold eN;omega) bd hL) aac ⟨rfl,trivial⟩ ⟨.eq rfl,.pure rfl,trivial⟩ ?_
      have hn4:=ke (L:=L) (k:=k2) (n:=3) Bv
      have hk:=fQ bd
      generalize dX L k2 3=n4 at *
      generalize db L k2=k at *
      clear bd
      ((try revert hK K);(refine Va X0 ?_))
      generalize D6:1+n1=w1
      generalize hw4:n4 - 1=w4
      refine aW (λz:Nat×Nat×List (Int×Int)=>(⟨ao [(0,.ptr 0 0 0),(2,aam options),(6,.ptr 1 0 0),(7,.ptr 2 0 0),(8,aam (c'+1:Nat)),(9,.ref 6 6 0 l.length),(10,aam (e'+1:Nat)),(11,.ptr 7 0 0),(12,aam z.1)],
          cd L z.2.1 cls [] [] R++[.arr 6 (rowsOf bG l),.var [aam w1,aam n2,aam n3,aam 1,aam w4,.ref 8 2 0 z.2.2.length],.arr 2 (rowsOf av z.2.2)]⟩:St))
        (λz=>(z.1:Int)<=R/\z.2.1<=L.length/\z.2.2.length<=z.1/\du R none z.2.2=true/\∀ x∈z.2.2,x.1<z.1) (λz=>R.toNat - z.1) (0,k,[]) ⟨aad,hk,Nat.le_refl _,rfl,Jy⟩ ?_ ?_
      · refine aC.trans (aC.nH 7 5 2 rfl rfl aac) ?_
        unfold cd
        exact Xv X0
      clear hk
      rintro ⟨u,k,ch⟩ ⟨hu,hk,cz,nA,bq⟩ nB g7 gz
      dsimp only at hu hk cz nA bq ⊢
      unfold cd
      simp only[ew,dx]
      by_cases IA:(u:Int)<R
      · ((repeat' (first|refine Va X0 ?_|(refine Xi ?_ ?_<;>try intro ht)|exact Xx|fail))<;>try with_reducible intro K hK)
        refine fw [0] (Ft L k hk hL) aac ⟨rfl,trivial⟩ ⟨.eq rfl,trivial⟩ ?_
        obtain ⟨qf,uv,tR⟩:=Hg L k
        have bd:=Hh hk
        generalize mL L k=cv at *
        generalize rl L k=k2 at *
        clear hk
        ((try revert hK K);(repeat' (first|refine Va X0 ?_|(refine V2 X0 ?_ ?_<;>try with_reducible intro hb)|(refine Xi ?_ ?_<;>try intro ht)|exact Xx|fail))<;>try with_reducible intro K hK)
        · refine fw [0] (vz L k2 2 (by unfold eN;omega) aac bd hL) aac ⟨rfl,trivial⟩ ⟨.eq rfl,.pure rfl,trivial⟩ ?_
          have hk:=fQ bd
          generalize uq L k2 2=b at *
          generalize db L k2=k at *
          clear bd
          ((try revert hK K);(repeat' (first|refine Va X0 ?_|(refine Xi ?_ ?_<;>try intro ht)|fail)))
          · refine g7 _ (u+1,k,ch++[((u:Int),cv)]) ⟨aad,hk,aak,Rv nA (by rw[g6,decide_eq_true_eq];omega) (tR Bv) (λx hx=>bq x hx) Jy,λx hx=>?_⟩ aad ?_
            · rcases bE.1 hx with hx | hx
              · have:=bq x hx;dsimp only;omega
              · simp only[bK] at hx;subst hx;dsimp only;omega
            · unfold cd
              simp only[ew,dx]
              rw[show rowsOf av ch++[[AV.lit (.int .i64 u),AV.lit (.int .i64 cv)]]=rowsOf av (ch++[((u:Int),cv)]) from nF (enc:=av) ch ((u:Int),cv)]
              exact Xs false [0,1,2,3,4,5,6,7,10] X0
          · exact g7 _ (u+1,k,ch) ⟨aad,hk,aad,nA,λx hx=>by have:=bq x hx;dsimp only;omega⟩ aad (by unfold cd;exact Xv X0)
        · exact g7 _ (u+1,k2,ch) ⟨aad,bd,aad,nA,λx hx=>by have:=bq x hx;dsimp only;omega⟩ aad (by unfold cd;exact Xv X0)
      · ((repeat' (first|refine Va X0 ?_|(refine Xi ?_ ?_<;>try intro ht)|exact Xx|fail)))
        refine gz _ _ rfl ?_
        clear g7 gz nB
        repeat (refine Xu ?_)
        refine cU (aC.rq 8 7 5 2 rfl rfl (by rw[cK];rfl) (nD _) (sV _)) ?_
        refine cU (σ':=⟨ao [(0,.ptr 0 0 0),(2,aam options),(6,.ptr 1 0 0),(7,.ptr 2 0 0),(8,aam (c'+1:Nat)),(9,.ref 6 6 0 l.length),(10,aam (e'+1:Nat)),(11,.ptr 7 0 0)],
            cd L k cls [] [] R++[.arr 6 (rowsOf bG l),.var (bG ⟨w1,n2,n3,1,w4,ch⟩),.gone]⟩) (by unfold cd;exact Xv X0) ?_
        unfold cd
        simp only[ew,dx]
        have vU:((e'+1:Nat):Int) - 1=e':=Bv
        refine Va @vU ?_
        refine bc _ (e',k,l++[⟨w1,n2,n3,1,w4,ch⟩]) ⟨aak,hk,?_⟩ aad ?_
        · intro o ho
          rcases bE.1 ho with ho | ho
          · exact hl o ho
          · simp only[bK] at ho;subst ho;exact⟨nA,aad⟩
        · unfold cd
          simp only[ew,dx]
          rw[show rowsOf bG l++[[AV.lit (.int .i64 w1),AV.lit (.int .i64 n2),AV.lit (.int .i64 n3),AV.lit (.int .i64 1),AV.lit (.int .i64 w4),AV.tree 2 (rowsOf av ch)]]=rowsOf bG (l++[⟨w1,n2,n3,1,w4,ch⟩]) from nF (enc:=bG) l ⟨w1,n2,n3,1,w4,ch⟩]
          exact Xs false [0,1,2,3,4,5,10] X0
    · obtain rfl:e=0:=Bv
      ((repeat' (first|refine Va X0 ?_|(refine Xi ?_ ?_<;>try intro ht)|exact Xx|fail)))
      refine bz _ _ rfl ?_
      clear bc bz dh
      repeat (refine Xu ?_)
      refine cU (σ':=⟨ao [(0,.ptr 0 0 0),(2,aam options),(6,.ptr 1 0 0),(7,.ptr 2 0 0),(8,aam (c'+1:Nat)),(9,.tree 6 (rowsOf bG l))],cd L k cls [] [] R⟩) ?_ ?_
      · unfold cd
        exact Xs true [0,1,2,3,4,5] X0
      unfold cd
      refine Va @iK ?_
      refine an _ (c',k,cls++[l]) ⟨aak,hk,?_⟩ aad ?_
      · intro x hx
        rcases bE.1 hx with hx | hx
        · exact kD x hx
        · simp only[bK] at hx;subst hx;exact⟨⟨Bv,Bv⟩,hl⟩
      · unfold cd
        rw[show rowsOf bw cls++[[AV.tree 6 (rowsOf bG l)]]=rowsOf bw (cls++[l]) from nF (enc:=bw) cls l]
        exact Xs false [0,1,2,7,4,5] X0
  obtain rfl:c=0:=Bv
  ((repeat' (first|refine Va X0 ?_|(refine Xi ?_ ?_<;>try intro ht)|exact Xx|fail)))
  refine aw _ _ rfl ?_;clear an aw Ql
  repeat (refine Xu ?_)
  clear jO
  refine cU (σ':=⟨ao [(0,.ptr 0 0 0),(6,.ptr 1 0 0),(7,.ptr 2 0 0)],cd L k cls [] [] R⟩) (by unfold cd;exact Xv X0) ?_
  unfold cd
  refine Va X0 ?_
  have cz:cls.length<=24:=Bv
  have lO:∀ i,(cls.getD i default).length<=24:=λi=>by
    rcases dr i cls.length with h | h
    · have:=(kD _ (aF (d:=default) h)).1;omega
    · rw[ax,fO h];decide
  refine aW (λz:Nat×Nat×List Pr=>(⟨ao [(0,.ptr 0 0 0),(6,.ptr 1 0 0),(7,.ptr 2 0 0),(14,aam z.1)],cd L z.2.1 cls z.2.2 [] R⟩:St))
    (λz=>(z.1:Int)<=R/\z.2.1<=L.length/\qD cls R z.2.2 z.1 0 0) (λz=>R.toNat - z.1) (0,k,[]) ⟨aad,hk,rfl,Jy,Jy⟩ (by unfold cd;exact Xv X0) ?_
  clear hk
  rintro ⟨u,k,aj⟩ ⟨hu,hk,hP⟩ Ql an aw
  dsimp only at hu hk hP ⊢
  unfold cd
  by_cases IA:(u:Int)<R
  · ((repeat' (first|refine Va X0 ?_|(refine Xi ?_ ?_<;>try intro ht)|exact Xx|fail)))
    refine aW (λz:Nat×Nat×List Pr=>(⟨ao [(0,.ptr 0 0 0),(6,.ptr 1 0 0),(7,.ptr 2 0 0),(14,aam u),(15,aam z.1)],cd L z.2.1 cls z.2.2 [] R⟩:St))
      (λz=>z.1<=cls.length/\z.2.1<=L.length/\qD cls R z.2.2 u z.1 0) (λz=>cls.length - z.1) (0,k,aj) ⟨aad,hk,hP⟩ (by unfold cd;exact Xv X0) ?_
    clear hk hP
    rintro ⟨i,k,aj⟩ ⟨hi,hk,hP⟩ dh bc bz
    dsimp only at hi hk hP ⊢
    unfold cd
    by_cases hi':i<cls.length
    · ((repeat' (first|refine Va X0 ?_|(refine Xi ?_ ?_<;>try intro ht)|exact Xx|fail)))
      refine aW (λz:Nat×Nat×List Pr=>(⟨ao [(0,.ptr 0 0 0),(6,.ptr 1 0 0),(7,.ptr 2 0 0),(14,aam u),(15,aam i),(16,aam z.1)],cd L z.2.1 cls z.2.2 [] R⟩:St))
        (λz=>i<z.1/\z.1<=cls.length/\z.2.1<=L.length/\qD cls R z.2.2 u i z.1) (λz=>cls.length - z.1) (i+1,k,aj) ⟨aad,aad,hk,hP.mono Bv Bv⟩ (by unfold cd;exact Xv X0) ?_
      clear hk hP
      rintro ⟨j,k,aj⟩ ⟨oJ,hj,hk,hP⟩ nB g7 gz
      dsimp only at oJ hj hk hP ⊢
      unfold cd
      by_cases eF:j<cls.length
      · ((repeat' (first|refine Va X0 ?_|(refine Xi ?_ ?_<;>try intro ht)|exact Xx|fail))<;>try with_reducible intro K hK)
        refine fw [0] (vz L k 3 (by unfold eN;omega) aac hk hL) aac ⟨rfl,trivial⟩ ⟨.eq rfl,.pure rfl,trivial⟩ ?_
        have bd:=fQ hk
        generalize uq L k 3=b at *
        generalize db L k=k2 at *
        clear hk
        have g1:=lO i
        have g2:=lO j
        have pt:=(kD _ (aF (d:=default) hi')).1
        have CK:=(kD _ (aF (d:=default) eF)).1
        have hmul:((cls.getD i default).length:Int) * (cls.getD j default).length=((cls.getD i default).length * (cls.getD j default).length:Nat):=Jy
        have aeY:(cls.getD i default).length * (cls.getD j default).length<=24 * 24:=EZ g1 g2
        generalize Pn:(cls.getD i default).length * (cls.getD j default).length=nn at *
        ((try revert hK K);(repeat' (first|refine Va @hmul ?_|(refine Xi ?_ ?_<;>try intro ht)|fail)))
        rotate_left
        · exact g7 _ (j+1,k2,aj) ⟨aad,aad,bd,hP.mono Bv Bv⟩ aad (by unfold cd;exact Xv X0)
        refine aW (λz:Nat×Nat×List Int=>(⟨ao [(0,.ptr 0 0 0),(6,.ptr 1 0 0),(7,.ptr 2 0 0),(14,aam u),(15,aam i),(16,aam j),(17,.ptr 6 0 0),(18,aam z.1)],
            cd L z.2.1 cls aj [] R++[.var [aam i,aam j,aam u,.ref 7 1 0 z.2.2.length],.arr 1 (ints z.2.2)]⟩:St))
          (λz=>z.1+z.2.2.length=nn/\z.2.1<=L.length/\∀ x∈z.2.2,0<=x/\(0<x->fv x=true)) (λz=>z.1) (nn,k2,[]) ⟨Jy,bd,Jy⟩ ?_ ?_
        · refine aC.trans (aC.nH 6 3 1 rfl rfl aac) ?_
          unfold cd
          exact Xv X0
        clear bd
        rintro ⟨w,k,bj⟩ ⟨hw,hk,xi⟩ D7 wI n7
        dsimp only at hw hk xi ⊢
        unfold cd
        simp only[ew,dx]
        by_cases Cr:0<w
        · obtain ⟨w',rfl⟩ :∃w',w=w'+1:=⟨w - 1,Bv⟩
          have D6:((w'+1:Nat):Int) - 1=w':=Bv
          ((repeat' (first|refine Va X0 ?_|(refine Xi ?_ ?_<;>try intro ht)|exact Xx|fail)))
          refine ln [] (.take 2 (.both 0 (.both 1 (.take 3 (.take 4 (.take 5 (.take 6 (.take 7 .nil))))) 3 (.take 1 (.take 4 (.take 5 (.take 6 (.take 7 .nil)))))) 3 (.take 0 (.take 1 (.take 4 (.take 5 (.take 6 (.take 7 .nil)))))))) rfl aac (by decide +kernel) ?_
          simp (disch:=omega) only[Ac,↓Pc,simprocAttr,sR,p8,p9,b9,dO]
          refine⟨⟨?_,?_⟩,?_⟩
          all_goals refine fw [0] (Ft L k hk hL) aac ⟨rfl,trivial⟩ ⟨.eq rfl,trivial⟩ ?_
          all_goals obtain ⟨qf,uv,tR⟩:=Hg L k
          all_goals have bd:=Hh hk
          all_goals generalize mL L k=cv at *
          all_goals generalize rl L k=k2 at *
          all_goals simp (disch:=omega) only[Ac,↓Pc,simprocAttr,sR,p8,p9,b9,dO]
          all_goals refine⟨Bv,?_⟩
          all_goals repeat (refine Xu ?_)
          all_goals ((repeat' (first|refine Va @D6 ?_|fail)))
          all_goals refine wI _ (w',k2,bj++[cv]) ⟨aak,bd,λx hx=>?_⟩ aad ?_
          all_goals first
            | (rcases bE.1 hx with hx | hx
               · exact xi x hx
               · simp only[bK] at hx;subst hx;exact⟨qf,tR⟩)
            | (unfold cd;simp only[ew,dx];exact Xs false [0,1,2,3,4,5,6,9] X0)
        · obtain rfl:w=0:=Bv
          ((repeat' (first|refine Va X0 ?_|(refine Xi ?_ ?_<;>try intro ht)|exact Xx|fail)))
          refine n7 _ _ rfl ?_
          clear wI n7 D7
          repeat (refine Xu ?_)
          refine cU (aC.rq 7 6 3 1 rfl rfl (by rw[sW];rfl) (lh _) (o9 _)) ?_
          refine cU (σ':=⟨ao [(0,.ptr 0 0 0),(6,.ptr 1 0 0),(7,.ptr 2 0 0),(14,aam u),(15,aam i),(16,aam j),(17,.ptr 6 0 0)],
              cd L k cls aj [] R++[.var (aO ⟨i,j,u,bj⟩),.gone]⟩) (by unfold cd;exact Xv X0) ?_
          unfold cd
          simp only[ew,dx]
          have eL:=hP.len
          refine Va X0 ?_
          refine g7 _ (j+1,k,aj++[⟨i,j,u,bj⟩]) ⟨aad,aad,hk,hP.app (RB IA oJ eF (by rw[Pn];omega) xi)⟩ aad ?_
          unfold cd
          rw[show rowsOf aO aj++[[AV.lit (.int .i64 i),AV.lit (.int .i64 j),AV.lit (.int .i64 u),AV.tree 1 (ints bj)]]=rowsOf aO (aj++[⟨i,j,u,bj⟩]) from nF (enc:=aO) aj ⟨i,j,u,bj⟩]
          exact Xs false [0,1,2,3,9,5] X0
      · ((repeat' (first|refine Va X0 ?_|(refine Xi ?_ ?_<;>try intro ht)|exact Xx|fail)))
        refine gz _ _ rfl ?_
        clear g7 gz nB
        repeat (refine Xu ?_)
        refine Va X0 ?_
        exact bc _ (i+1,k,aj) ⟨aad,hk,hP.mono Bv Bv⟩ aad (by unfold cd;exact Xv X0)
    · ((repeat' (first|refine Va X0 ?_|(refine Xi ?_ ?_<;>try intro ht)|exact Xx|fail)))
      refine bz _ _ rfl ?_
      clear bc bz dh
      repeat (refine Xu ?_)
      refine Va X0 ?_
      exact an _ (u+1,k,aj) ⟨aad,hk,hP.mono Bv Bv⟩ aad (by unfold cd;exact Xv X0)
  have Iy:=hP.ok
  have Iz:aj.length<=4000:=by have:=hP.len;omega
  ((repeat' (first|refine Va X0 ?_|(refine Xi ?_ ?_<;>try intro ht)|exact Xx|fail)))
  refine aw _ _ rfl ?_;clear an aw Ql
  repeat (refine Xu ?_)
  refine cU (σ':=⟨ao [(0,.ptr 0 0 0),(6,.ptr 1 0 0),(7,.ptr 2 0 0)],cd L k cls aj [] R⟩) (by unfold cd;exact Xv X0) ?_
  clear IA hu hP
  unfold cd
  ((refine Va X0 ?_)<;>try with_reducible intro K hK)
  refine fw [0] (j' L k 3 (by unfold eN;omega) hk hL) aac ⟨rfl,trivial⟩ ⟨.eq rfl,.pure rfl,trivial⟩ ?_
  have AZ:=ke (L:=L) (k:=k) (n:=3) Bv
  have bd:=fQ hk
  generalize dX L k 3=n at *
  generalize db L k=k2 at *
  clear hk
  obtain ⟨c1,rfl⟩ :∃c1:Nat,n=c1:=⟨n.toNat,Bv⟩
  ((try revert hK K);(refine Va X0 ?_))
  refine aW (λz:Nat×Nat×List Ct=>(⟨ao [(0,.ptr 0 0 0),(6,.ptr 1 0 0),(7,.ptr 2 0 0),(19,aam z.1)],cd L z.2.1 cls aj z.2.2 R⟩:St))
    (λz=>z.1+z.2.2.length<=2/\z.2.1<=L.length/\∀ x∈z.2.2,fP ⟨cls,[],[],R⟩ x=true) (λz=>z.1) (c1,k2,[]) ⟨aak,bd,Jy⟩ (by unfold cd;exact Xv X0) ?_
  clear bd
  rintro ⟨c,k,aI⟩ ⟨bC,hk,nW⟩ Ql an aw
  dsimp only at bC hk nW ⊢
  unfold cd
  by_cases jO:0<c
  · obtain ⟨c',rfl⟩ :∃c',c=c'+1:=⟨c - 1,Bv⟩
    have iK:((c'+1:Nat):Int) - 1=c':=Bv
    ((repeat' (first|refine Va X0 ?_|(refine Xi ?_ ?_<;>try intro ht)|exact Xx|fail))<;>try with_reducible intro K hK)
    refine fw [0] (j' L k R (by unfold eN;omega) hk hL) aac ⟨rfl,trivial⟩ ⟨.eq rfl,.pure rfl,trivial⟩ ?_
    have ll:=ke (L:=L) (k:=k) (n:=R) Bv
    have bd:=fQ hk
    generalize dX L k R=n1 at *
    generalize db L k=k2 at *
    clear hk
    ((try revert hK K);(refine Va X0 ?_)<;>try with_reducible intro K hK)
    refine fw [0] (j' L k2 4 (by unfold eN;omega) bd hL) aac ⟨rfl,trivial⟩ ⟨.eq rfl,.pure rfl,trivial⟩ ?_
    have kk:=ke (L:=L) (k:=k2) (n:=4) Bv
    have hk:=fQ bd
    generalize dX L k2 4=n2 at *
    generalize db L k2=k at *
    clear bd
    ((try revert hK K);(refine Va X0 ?_)<;>try with_reducible intro K hK)
    refine fw [0] (Ft L k hk hL) aac ⟨rfl,trivial⟩ ⟨.eq rfl,trivial⟩ ?_
    obtain ⟨qf,uv,tR⟩:=Hg L k
    have bd:=Hh hk
    generalize mL L k=cv at *
    generalize rl L k=k2 at *
    clear hk
    have IB:fv (max 1 cv)=true:=by
      by_cases h0:0<cv
      · rw[show max 1 cv=cv by omega];exact tR h0
      · rw[show max 1 cv=1 by omega];decide
    generalize cy:max 1 cv=bW at *
    ((try revert hK K);(refine Va @cy ?_))
    refine aW (λz:Nat×Nat×List Ld=>(⟨ao [(0,.ptr 0 0 0),(6,.ptr 1 0 0),(7,.ptr 2 0 0),(19,aam (c'+1:Nat)),(20,.ptr 6 0 0),(21,aam z.1)],
        cd L z.2.1 cls aj aI R++[.var [aam n1,.ref 7 3 0 z.2.2.length,aam n2,aam bW],.arr 3 (rowsOf kH z.2.2)]⟩:St))
      (λz=>z.1<=cls.length/\z.2.1<=L.length/\rU cls R z.2.2 z.1 0) (λz=>cls.length - z.1) (0,k2,[]) ⟨aS _,bd,rfl,Jy,Jy⟩ ?_ ?_
    · refine aC.trans (aC.nH 6 1 3 rfl rfl aac) ?_
      unfold cd
      exact Xv X0
    clear bd
    rintro ⟨i,k,e9⟩ ⟨hi,hk,hI⟩ dh bc bz
    dsimp only at hi hk hI ⊢
    unfold cd
    simp only[ew,dx]
    by_cases hi':i<cls.length
    · have pt:=lO i
      generalize cJ:cls.getD i default=li at *
      ((repeat' (first|refine Va @cJ ?_|(refine Xi ?_ ?_<;>try intro ht)|exact Xx|fail)))
      refine aW (λz:Nat×Nat×List Ld=>(⟨ao [(0,.ptr 0 0 0),(6,.ptr 1 0 0),(7,.ptr 2 0 0),(19,aam (c'+1:Nat)),(20,.ptr 6 0 0),(21,aam i),(22,aam z.1)],
          cd L z.2.1 cls aj aI R++[.var [aam n1,.ref 7 3 0 z.2.2.length,aam n2,aam bW],.arr 3 (rowsOf kH z.2.2)]⟩:St))
        (λz=>z.1<=li.length/\z.2.1<=L.length/\rU cls R z.2.2 i z.1) (λz=>li.length - z.1) (0,k,e9) ⟨aS _,hk,hI⟩ (by unfold cd;exact Xv (X2 @ew.{0} @dx.{0})) ?_
      clear hk hI
      rintro ⟨j,k,e9⟩ ⟨hj,hk,hI⟩ nB g7 gz
      dsimp only at hj hk hI ⊢
      unfold cd
      simp only[ew,dx]
      have ab3:=hI.len
      by_cases eF:j<li.length
      · ((repeat' (first|refine Va @cJ ?_|(refine Xi ?_ ?_<;>try intro ht)|exact Xx|fail))<;>try with_reducible intro K hK)
        refine fw [0] (vz L k 2 (by unfold eN;omega) aac hk hL) aac ⟨rfl,trivial⟩ ⟨.eq rfl,.pure rfl,trivial⟩ ?_
        have bd:=fQ hk
        generalize uq L k 2=b at *
        generalize db L k=k2 at *
        clear hk
        ((try revert hK K);(repeat' (first|refine Va @cJ ?_|(refine Xi ?_ ?_<;>try intro ht)|fail)))
        · refine ln [] (.take 2 (.take 3 (.take 4 (.both 0 (.both 1 (.take 5 (.take 6 (.take 7 (.take 8 (.take 9 (.take 10 (.take 11 .nil))))))) 5 (.take 1 (.take 6 (.take 7 (.take 8 (.take 9 (.take 10 (.take 11 .nil)))))))) 5 (.take 0 (.take 1 (.take 6 (.take 7 (.take 8 (.take 9 (.take 10 (.take 11 .nil)))))))))))) rfl aac (by decide +kernel) ?_
          simp (disch:=omega) only[Ac,↓Pc,simprocAttr,sR,p8,p9,b9,dO]
          refine⟨⟨?_,?_⟩,?_⟩
          all_goals refine fw [0] (j' L k2 3 (by unfold eN;omega) bd hL) aac ⟨rfl,trivial⟩ ⟨.eq rfl,.pure rfl,trivial⟩ ?_
          all_goals have hn3:=ke (L:=L) (k:=k2) (n:=3) Bv
          all_goals have hk:=fQ bd
          all_goals generalize dX L k2 3=n3 at *
          all_goals generalize db L k2=k at *
          all_goals clear bd
          all_goals simp (disch:=omega) only[Ac,↓Pc,simprocAttr,sR,p8,p9,b9,dO]
          all_goals refine⟨⟨Bv,Bv⟩,Bv,?_⟩
          all_goals repeat (refine Xu ?_)
          all_goals ((repeat' (first|refine Va X0 ?_|fail)))
          all_goals refine g7 _ (j+1,k,e9++[⟨i,j,1+n3⟩]) ⟨aad,hk,hI.app hi' (by rw[cJ];exact eF) ⟨Bv,Bv⟩⟩ aad ?_
          all_goals unfold cd
          all_goals simp only[ew,dx]
          all_goals rw[show rowsOf kH e9++[[AV.lit (.int .i64 i),AV.lit (.int .i64 j),AV.lit (.int .i64 (1+n3))]]=rowsOf kH (e9++[⟨i,j,1+n3⟩]) from nF (enc:=kH) e9 ⟨i,j,1+n3⟩]
          all_goals exact Xs false [0,1,2,3,4,5,6,9] X0
        · exact g7 _ (j+1,k2,e9) ⟨aad,bd,hI.mono Bv Bv⟩ aad (by unfold cd;exact Xv (X2 @ew.{0} @dx.{0}))
      · ((repeat' (first|refine Va @cJ ?_|(refine Xi ?_ ?_<;>try intro ht)|exact Xx|fail)))
        refine gz _ _ rfl ?_
        clear g7 gz nB
        repeat (refine Xu ?_)
        refine Va X0 ?_
        exact bc _ (i+1,k,e9) ⟨aad,hk,hI.mono Bv Bv⟩ aad (by unfold cd;exact Xv (X2 @ew.{0} @dx.{0}))
    · ((repeat' (first|refine Va X0 ?_|(refine Xi ?_ ?_<;>try intro ht)|exact Xx|fail)))
      refine bz _ _ rfl ?_
      clear bc bz dh
      repeat (refine Xu ?_)
      refine cU (aC.rq 7 6 1 3 rfl rfl (by rw[cK];rfl) (nD _) (sV _)) ?_
      refine cU (σ':=⟨ao [(0,.ptr 0 0 0),(6,.ptr 1 0 0),(7,.ptr 2 0 0),(19,aam (c'+1:Nat)),(20,.ptr 6 0 0)],
          cd L k cls aj aI R++[.var (cN ⟨n1,e9,n2,bW⟩),.gone]⟩) (by unfold cd;exact Xv X0) ?_
      unfold cd
      simp only[ew,dx]
      refine Va @iK ?_
      refine an _ (c',k,aI++[⟨n1,e9,n2,bW⟩]) ⟨aak,hk,?_⟩ aad ?_
      · intro x hx
        rcases bE.1 hx with hx | hx
        · exact nW x hx
        · simp only[bK] at hx
          subst hx
          unfold fP g6
          simp only[bb,decide_eq_true_eq]
          exact⟨⟨⟨Bv,Bv⟩,IB⟩,hI.ok⟩
      · unfold cd
        rw[show rowsOf cN aI++[[AV.lit (.int .i64 n1),AV.tree 3 (rowsOf kH e9),AV.lit (.int .i64 n2),AV.lit (.int .i64 bW)]]=rowsOf cN (aI++[⟨n1,e9,n2,bW⟩]) from nF (enc:=cN) aI ⟨n1,e9,n2,bW⟩]
        exact Xs false [0,1,2,3,4,9] X0
  obtain rfl:c=0:=Bv
  ((repeat' (first|refine Va X0 ?_|(refine Xi ?_ ?_<;>try intro ht)|exact Xx|fail)))
  refine aw _ _ rfl ?_;clear an aw Ql
  repeat (refine Xu ?_)
  refine Vb X0 ?_
  have hMM:MM ⟨cls,aj,aI,R⟩ iu options:=by
    refine⟨⟨aad,λl hl=>by have:=(kD l hl).1;omega,Iz,aad,aad,λl hl o ho=>((kD l hl).2 o ho).1,?_,λx hx=>?_⟩,aad,λl hl=>(kD l hl).1,vW,aad,λl hl o ho=>((kD l hl).2 o ho).2⟩
    · exact (Hf _ _).trans Iy
    · exact (Rz _).trans (nW x hx)
  unfold jm
  simp only[fc,eM]
  simp (disch:=omega) only[Ac,↓Pc,simprocAttr]
  refine⟨_,_,⟨⟨cls,aj,aI,R⟩,k,hMM,hk,rfl,rfl⟩,?_⟩
  refine rp [0,4] true aac ⟨⟨Jy,.inr rfl⟩,⟨Jy,.inr (by rw[xn];rfl)⟩,trivial⟩ aac aac (bt.agg _ _ rfl (kJ.spec (R:=bt _ _ _ _) (cs:=D3 ⟨cls,aj,aI,R⟩) (ds:=[.ref 3 1 0 cls.length,.ref 4 4 0 aj.length,.ref 5 4 0 aI.length,aam R]) ⟨?_,.eq rfl,?_,.pure rfl,trivial⟩).2)
  · first|exact .pure rfl|exact .eq rfl|exact .fz rfl (by simp only[Bc,Rc])
  · first|exact .pure rfl|exact .eq rfl|exact .fz rfl (by simp only[Bc,Rc])
def ab5(L:List Int)(k:Nat)(iu options:Nat)(hk:k<=L.length)(hL:L.length<1000000)(hc:iu<=24)(ho:options<=24)(D5:1<=options):
  di Tryz.prog 20 [.ptr 0 0 0,aam iu,aam options] [fV L k] (λr os=>∃ m k',MM m iu options/\k'<=L.length/\r=.agg (aB m)/\os=[fV L k']) :=
 ab0 (ab2 L k iu options hk hL hc ho D5) λr os h=>by
  obtain⟨m,k',h1,h2,rfl,rfl⟩:=h;exact⟨_,_,⟨m,k',h1,h2,rfl,rfl⟩,ab1 m _ (λ_=>rfl)⟩
def jM(L:List Int)(k:Nat):Int:=if dX L k 5=0 then 1099511627776 else if dX L k 5<=2 then 1+dX L (db L k) 30 else 0
def dm(L:List Int)(k:Nat):Nat:=if dX L k 5=0 then db L k else if dX L k 5<=2 then db L (db L k) else db L k
def yr(L:List Int)(k:Nat):0<=jM L k/\jM L k<=1099511627776/\(0<jM L k->fv (jM L k)=true):=by
 have h30:=ke (L:=L) (k:=db L k) (n:=30) Bv;unfold jM;split
 ·exact⟨Bv,Bv,λ_=>aac⟩
 ·split
  ·refine⟨Bv,Bv,λ_=>?_⟩;rw[fv,decide_eq_true_eq];omega
  ·exact⟨Bv,Bv,Bv⟩
def tS{L:List Int}{k:Nat}(h:k<=L.length):dm L k<=L.length:=by
 unfold dm;split
 ·exact fQ h
 ·split
  ·exact fQ (fQ h)
  ·exact fQ h
def yq(L:List Int)(k:Nat)(hk:k<=L.length)(hL:L.length<1000000):ak Tryz.prog 46 [.ptr 0 0 0] [fV L k] (aam (jM L k)) [fV L (dm L k)]:=by
 have h5:=ke (L:=L) (k:=k) (n:=5) Bv;have h30:=ke (L:=L) (k:=db L k) (n:=30) Bv;unfold jM dm fV;refine ak.aL 13 1 [.tmp 2] Tryz.func46 ?_;repeat'(first|(refine Xr X0 ?_;intro K hK)|refine Xo X0 ?_|(refine hK _ ?_;clear hK K)|(refine Xg X0 ?_ ?_<;>try intro hb)|(refine Xi ?_ ?_<;>try intro ht)|refine Xz ?_|refine Xh ?_|(refine Xe ?_;first|refine aQ rfl ?_|refine Xl ?_ ?_)|refine Xd ?_ ?_|exact Xx|fail)
 refine eT (j' L k 5 (by unfold eN;omega) hk hL) Jy ?_;have bd:=fQ hk;generalize dX L k 5=v at *;generalize db L k=k2 at *;repeat'(first|(refine Xr X0 ?_;intro K hK)|refine Xo X0 ?_|(refine hK _ ?_;clear hK K)|(refine Xg X0 ?_ ?_<;>try intro hb)|(refine Xi ?_ ?_<;>try intro ht)|refine Xz ?_|refine Xh ?_|(refine Xe ?_;first|refine aQ rfl ?_|refine Xl ?_ ?_)|refine Xd ?_ ?_|exact Xx|fail)
 all_goals try first
  | (rw[if_pos (by assumption)];done)
  | (rw[if_neg Bv,if_neg Bv];done)
 all_goals
  refine eT (j' L k2 30 (by unfold eN;omega) bd hL) Jy ?_;repeat'(first|(refine Xr X0 ?_;intro K hK)|refine Xo X0 ?_|(refine hK _ ?_;clear hK K)|(refine Xg X0 ?_ ?_<;>try intro hb)|(refine Xi ?_ ?_<;>try intro ht)|refine Xz ?_|refine Xh ?_|(refine Xe ?_;first|refine aQ rfl ?_|refine Xl ?_ ?_)|refine Xd ?_ ?_|exact Xx|fail)
  all_goals(rw[if_neg Bv,if_pos Bv])
def yu(c1 c2 c3 c4:Int)(a b:bF):Int :=
 if a.room=b.room/\0<=a.room then(if 2*a.day+b.day=0 then 1099511627776 else if 2*a.day+b.day=1 then c1 else if 2*a.day+b.day=2 then c2 else 1099511627776)
 else(if 2*a.day+b.day=0 then c3 else if 2*a.day+b.day=2 then c4 else 0)
def tT(f:bF->bF->Int)(a:bF):List bF->List Int->List Int
 |[],acc=>acc
 |b::r,acc=>tT f a r (acc++[f a b])
def tU(f:bF->bF->Int)(lb:List bF):List bF->List Int->List Int
 |[],acc=>acc
 |a::r,acc=>tU f lb r (tT f a lb acc)
def A0(l:List Int):Prop:=∀ x∈l,0<=x/\(0<x->fv x=true)
def TJ{f:bF->bF->Int}{a:bF}(hf:∀ b,0<=f a b/\(0<f a b->fv (f a b)=true)):∀ (l:List bF) (acc:List Int),A0 acc->A0 (tT f a l acc)/\(tT f a l acc).length=acc.length+l.length
 |[],acc,h=>⟨h,rfl⟩
 |b::r,acc,h=>by
  rw[tT];obtain⟨h1,h2⟩:=TJ hf r (acc++[f a b]) (λx hx=>by
   rcases bE.1 hx with h'|h'
   ·exact h x h'
   ·rw[bK.1 h'];exact hf b)
  exact⟨h1,by rw[h2];simp;omega⟩
def TK{f:bF->bF->Int}(hf:∀ a b,0<=f a b/\(0<f a b->fv (f a b)=true))(lb:List bF):∀ (l:List bF) (acc:List Int),A0 acc->A0 (tU f lb l acc)/\(tU f lb l acc).length=acc.length+l.length*lb.length
 |[],acc,h=>⟨h,by simp[tU]⟩
 |a::r,acc,h=>by
  rw[tU];obtain⟨h1,h2⟩:=TJ (hf a) lb acc h;obtain⟨h3,h4⟩:=TK hf lb r _ h1;exact⟨h3,by rw[h4,h2,List.length_cons,eB,sA];omega⟩
def D1(L:List Int)(d:Nat):Nat:=dm L (dm L (dm L (dm L d)))
def abX{L:List Int}{d:Nat}(h:d<=L.length):D1 L d<=L.length:=tS (tS (tS (tS h)))
def wH(L:List Int)(d:Nat)(la lb:List bF):List Int:=tU (yu (jM L d) (jM L (dm L d)) (jM L (dm L (dm L d))) (jM L (dm L (dm L (dm L d))))) lb la []
def TG(L:List Int)(d:Nat)(la lb:List bF):A0 (wH L d la lb)/\(wH L d la lb).length=la.length*lb.length:=by
 have h:=TK (f:=yu (jM L d) (jM L (dm L d)) (jM L (dm L (dm L d))) (jM L (dm L (dm L (dm L d))))) (λa b=>by
  have r1:=yr L d;have r2:=yr L (dm L d);have r3:=yr L (dm L (dm L d));have r4:=yr L (dm L (dm L (dm L d)));unfold yu;split
  ·split
   ·exact⟨aac,λ_=>aac⟩
   split
   ·exact⟨r1.1,r1.2.2⟩
   split
   ·exact⟨r2.1,r2.2.2⟩
   ·exact⟨aac,λ_=>aac⟩
  ·split
   ·exact⟨r3.1,r3.2.2⟩
   split
   ·exact⟨r4.1,r4.2.2⟩
   ·exact⟨aac,λh=>Bv⟩) lb la [] (λx hx=>by simp at hx)
 exact⟨h.1,by rw[wH,h.2];simp⟩
def abW(L:List Int)(d:Nat)(cls:List (List bF))(aj:List Pr)(R:Int)(i k:Nat)(hd:d<=L.length)(hL:L.length<1000000)(hi:i<cls.length)(hk:k<cls.length)(hb:cls.length<=24)(hl:∀ l∈cls,l.length<=24/\∀ o∈l,0<=o.day/\o.day<=1):
  ak Tryz.prog 47 [.ptr 0 0 0,.agg [.tree 1 (rowsOf bw cls),.ref 1 4 0 aj.length,.lit (.slice none 0 0),aam R],aam i,aam k] [fV L d,.arr 4 (rowsOf aO aj)]
   (.agg (aO ⟨i,k,1,wH L d (cls.getD i default) (cls.getD k default)⟩)) [fV L (D1 L d),.arr 4 (rowsOf aO aj)]:=by
 have wC:=hl _ (aF (d:=default) hi);have uk:=hl _ (aF (d:=default) hk);generalize u3:cls.getD i default=la at *;generalize tV:cls.getD k default=lb at *;have e1:=yq L d hd hL;have d1:=tS hd;have e2:=yq L _ d1 hL;have d2:=tS d1;have e3:=yq L _ d2 hL;have d3:=tS d2;have e4:=yq L _ d3 hL;have mz:=(TG L d la lb).2;generalize aq:wH L d la lb=res at *;unfold wH at aq;unfold D1;generalize jM L (dm L (dm L (dm L d)))=c4 at *;generalize dm L (dm L (dm L (dm L d)))=k4 at *;generalize jM L (dm L (dm L d))=c3 at *;generalize dm L (dm L (dm L d))=k3 at *;generalize jM L (dm L d)=c2 at *;generalize dm L (dm L d)=k2 at *;generalize jM L d=c1 at *;generalize dm L d=k1 at *;generalize hf:yu c1 c2 c3 c4=f at *;unfold fV at *;refine ak.aL 103 2 [.cell 8 65] Tryz.func47 ?_;((try revert hK K);(repeat'(first|refine Vb X0 ?_|(refine V2 X0 ?_ ?_<;>try with_reducible intro hb)|(refine Xi ?_ ?_<;>try intro ht)|refine VD ?_ ?_|exact Xx|fail))<;>try with_reducible intro K hK)
 (refine Xn [0] (e1) ?_;simp(disch:=omega)only[Ac,↓Pc,simprocAttr])
 ((try revert hK K);(repeat'(first|refine Vb X0 ?_|(refine V2 X0 ?_ ?_<;>try with_reducible intro hb)|(refine Xi ?_ ?_<;>try intro ht)|refine VD ?_ ?_|exact Xx|fail))<;>try with_reducible intro K hK)
 (refine Xn [0] (e2) ?_;simp(disch:=omega)only[Ac,↓Pc,simprocAttr])
 ((try revert hK K);(repeat'(first|refine Vb X0 ?_|(refine V2 X0 ?_ ?_<;>try with_reducible intro hb)|(refine Xi ?_ ?_<;>try intro ht)|refine VD ?_ ?_|exact Xx|fail))<;>try with_reducible intro K hK)
 (refine Xn [0] (e3) ?_;simp(disch:=omega)only[Ac,↓Pc,simprocAttr])
 ((try revert hK K);(repeat'(first|refine Vb X0 ?_|(refine V2 X0 ?_ ?_<;>try with_reducible intro hb)|(refine Xi ?_ ?_<;>try intro ht)|refine VD ?_ ?_|exact Xx|fail))<;>try with_reducible intro K hK)
 (refine Xn [0] (e4) ?_;simp(disch:=omega)only[Ac,↓Pc,simprocAttr])
 ((try revert hK K);(repeat'(first|refine Vb X0 ?_|(refine V2 X0 ?_ ?_<;>try with_reducible intro hb)|(refine Xi ?_ ?_<;>try intro ht)|refine VD ?_ ?_|exact Xx|fail))<;>try with_reducible intro K hK)
 refine aW (λz:Nat×List Int=>(⟨ao [(2,aam i),(3,aam k),(5,.ptr 2 0 0),(8,.ptr 3 0 0),(9,.ptr 4 0 0),(10,.ptr 5 0 0),(11,.ptr 6 0 0),(12,aam z.1)],
   [.var [.tree 1 (ints L),aam k4],.arr 4 (rowsOf aO aj),.var [.tree 1 (rowsOf bw cls),.ref 1 4 0 aj.length,.lit (.slice none 0 0),aam R],.var [aam 0,aam 0,aam 0,.lit (.slice none 0 0)],.var [aam i,aam k,aam 1,.ref 7 1 0 z.2.length],
    .var [aam 1099511627776,aam c1,aam c2,aam 1099511627776],.var [aam c3,aam 0,aam c4,aam 0],.arr 1 (ints z.2)]⟩:St))
  (λz=>z.1<=la.length/\z.2.length=z.1*lb.length/\tU f lb (la.drop z.1) z.2=res) (λz=>la.length-z.1) (0,[]) ⟨aS _,Jy,aq⟩ ?_ ?_
 ·refine aC.trans (aC.nH 4 3 1 rfl rfl aac) ?_;exact Xv X0
 rintro⟨x,bj⟩⟨hx,ht,hr⟩Ql an aw;dsimp only at hx ht hr ⊢;by_cases bR:x<la.length
 ·have hdx:=dL la x default bR;have AM:=wC.2 _ (aF (l:=la) (i:=x) (d:=default) bR);have j7:x*lb.length<=24*24:=EZ Bv uk.1;have ef:(x+1)*lb.length=x*lb.length+lb.length:=by rw[eB,sA]
  generalize br:x*lb.length=xb at *;generalize AQ:la.getD x default=oa at *;rw[hdx,tU]at hr;generalize tM:tT f oa lb bj=ab8 at hr;((try revert hK K);(repeat'(first|refine Va @u3 ?_|(refine V2 @u3 ?_ ?_<;>try with_reducible intro hb)|(refine Xi ?_ ?_<;>try intro ht)|refine VD ?_ ?_|exact Xx|fail))<;>try with_reducible intro K hK)
  refine aW (λz:Nat×List Int=>(⟨ao [(2,aam i),(3,aam k),(5,.ptr 2 0 0),(8,.ptr 3 0 0),(9,.ptr 4 0 0),(10,.ptr 5 0 0),(11,.ptr 6 0 0),(12,aam x),(13,aam z.1)],
    [.var [.tree 1 (ints L),aam k4],.arr 4 (rowsOf aO aj),.var [.tree 1 (rowsOf bw cls),.ref 1 4 0 aj.length,.lit (.slice none 0 0),aam R],.var [aam 0,aam 0,aam 0,.lit (.slice none 0 0)],.var [aam i,aam k,aam 1,.ref 7 1 0 z.2.length],
    .var [aam 1099511627776,aam c1,aam c2,aam 1099511627776],.var [aam c3,aam 0,aam c4,aam 0],.arr 1 (ints z.2)]⟩:St))
   (λz=>z.1<=lb.length/\z.2.length=xb+z.1/\tT f oa (lb.drop z.1) z.2=ab8) (λz=>lb.length-z.1) (0,bj) ⟨aS _,aad,tM⟩ (Xv X0) ?_
  clear ht tM;rintro⟨y,bj⟩⟨hy,ht,gH⟩dh bc bz;dsimp only at hy ht gH ⊢;by_cases Dr:y<lb.length
  ·have hdy:=dL lb y default Dr;have hoy:=uk.2 _ (aF (l:=lb) (i:=y) (d:=default) Dr);generalize a9:lb.getD y default=ob at *;rw[hdy,tT]at gH;have iy:f oa ob=yu c1 c2 c3 c4 oa ob:=by rw[hf]
   unfold yu at iy;repeat'(first|((fail_if_success (first|refine gx 12 ?_|refine gy 12 ?_));refine Xr (X4 @u3 @tV @AQ @a9) ?_;intro K hK)|refine Xo (X4 @u3 @tV @AQ @a9) ?_|(refine hK _ ?_;clear hK K)|(refine Xg (X4 @u3 @tV @AQ @a9) ?_ ?_<;>try intro hb)|(refine Xi ?_ ?_<;>try intro ht)|refine Xy ?_|refine Xd ?_ ?_|exact Xx|fail)
   refine zi ?_;intro Q hn he;refine uB ⟨ao [(2,aam i),(3,aam k),(5,.ptr 2 0 0),(8,.ptr 3 0 0),(9,.ptr 4 0 0),(10,.ptr 5 0 0),(11,.ptr 6 0 0),(12,aam x),(13,aam y),(14,.ptr 8 0 0),(15,.ptr 9 0 0)],
    [.var [.tree 1 (ints L),aam k4],.arr 4 (rowsOf aO aj),.var [.tree 1 (rowsOf bw cls),.ref 1 4 0 aj.length,.lit (.slice none 0 0),aam R],.var [aam 0,aam 0,aam 0,.lit (.slice none 0 0)],.var [aam i,aam k,aam 1,.ref 7 1 0 bj.length],
    .var [aam 1099511627776,aam c1,aam c2,aam 1099511627776],.var [aam c3,aam 0,aam c4,aam 0],.arr 1 (ints bj),
     .var [aam oa.wk,aam oa.day,aam oa.st,aam oa.len,aam oa.room],.var [aam ob.wk,aam ob.day,aam ob.st,aam ob.len,aam ob.room]]⟩ hn ?_ (λkey=>?_)
   rotate_left
   ·refine ln [] (.take 0 (.take 1 (.take 2 (.take 3 (.take 4 (.take 5 (.take 6 (.take 7 (.take 8 (.take 9 (.take 11 (.take 14 (.three 10 (.take 12 (.three 13 (.take 15 (.take 16 (.three 17 (.both 18 (.take 19 (.take 20 (.take 21 .nil))) 19 (.take 18 (.take 20 (.take 21 .nil)))) 18 (.both 17 (.take 19 (.take 20 (.take 21 .nil))) 19 (.both 17 (.take 20 (.take 21 .nil)) 20 (.take 17 (.take 21 .nil)))) 19 (.both 17 (.take 18 (.take 20 (.take 21 .nil))) 18 (.both 17 (.take 20 (.take 21 .nil)) 20 (.take 17 (.take 21 .nil))))))) 18 (.both 13 (.take 15 (.take 16 (.both 17 (.take 19 (.take 20 (.take 21 .nil))) 19 (.both 17 (.take 20 (.take 21 .nil)) 20 (.take 17 (.take 21 .nil)))))) 19 (.both 13 (.take 15 (.take 16 (.both 17 (.take 20 (.take 21 .nil)) 20 (.take 17 (.take 21 .nil))))) 20 (.take 13 (.take 15 (.take 16 (.take 17 (.take 21 .nil))))))) 19 (.both 13 (.take 15 (.take 16 (.both 17 (.take 18 (.take 20 (.take 21 .nil))) 18 (.both 17 (.take 20 (.take 21 .nil)) 20 (.take 17 (.take 21 .nil)))))) 18 (.both 13 (.take 15 (.take 16 (.both 17 (.take 20 (.take 21 .nil)) 20 (.take 17 (.take 21 .nil))))) 20 (.take 13 (.take 15 (.take 16 (.take 17 (.take 21 .nil))))))))) 18 (.both 10 (.take 12 (.both 13 (.take 15 (.take 16 (.both 17 (.take 19 (.take 20 (.take 21 .nil))) 19 (.both 17 (.take 20 (.take 21 .nil)) 20 (.take 17 (.take 21 .nil)))))) 19 (.both 13 (.take 15 (.take 16 (.both 17 (.take 20 (.take 21 .nil)) 20 (.take 17 (.take 21 .nil))))) 20 (.take 13 (.take 15 (.take 16 (.take 17 (.take 21 .nil)))))))) 19 (.both 10 (.take 12 (.both 13 (.take 15 (.take 16 (.both 17 (.take 20 (.take 21 .nil)) 20 (.take 17 (.take 21 .nil))))) 20 (.take 13 (.take 15 (.take 16 (.take 17 (.take 21 .nil))))))) 20 (.take 10 (.take 12 (.take 13 (.take 15 (.take 16 (.take 17 (.take 21 .nil))))))))) 19 (.both 10 (.take 12 (.both 13 (.take 15 (.take 16 (.both 17 (.take 18 (.take 20 (.take 21 .nil))) 18 (.both 17 (.take 20 (.take 21 .nil)) 20 (.take 17 (.take 21 .nil)))))) 18 (.both 13 (.take 15 (.take 16 (.both 17 (.take 20 (.take 21 .nil)) 20 (.take 17 (.take 21 .nil))))) 20 (.take 13 (.take 15 (.take 16 (.take 17 (.take 21 .nil)))))))) 18 (.both 10 (.take 12 (.both 13 (.take 15 (.take 16 (.both 17 (.take 20 (.take 21 .nil)) 20 (.take 17 (.take 21 .nil))))) 20 (.take 13 (.take 15 (.take 16 (.take 17 (.take 21 .nil))))))) 20 (.take 10 (.take 12 (.take 13 (.take 15 (.take 16 (.take 17 (.take 21 .nil)))))))))))))))))))))) rfl aac (by decide +kernel) ?_;simp(disch:=omega)only[Ac,↓Pc,simprocAttr,Pw,u3,tV,AQ,a9];repeat'(first|with_reducible refine And.intro ?_ ?_|omega|with_reducible rfl)
    all_goals refine key _ ?_
    all_goals first|((refine aC.ao _ _ rfl ?_;simp only[Tc,↓reduceIte,Nat.reduceEqDiff,oT,Nat.reduceAdd];try trivial);done)|((refine aC.se [0,1,2,3,4,5,6,7,8,9] false (by simp only[Oc,simprocAttr]) ?_;simp only[Hr,↓reduceIte,Nat.reduceEqDiff,oT,Nat.reduceAdd];try(and_intros<;>first|exact .pure rfl|exact .eq rfl|exact .fz rfl (by simp only[Bc,Rc])));done)|((refine aC.se [0,1,2,3,4,5,6,7,9,8] false (by simp only[Oc,simprocAttr]) ?_;simp only[Hr,↓reduceIte,Nat.reduceEqDiff,oT,Nat.reduceAdd];try(and_intros<;>first|exact .pure rfl|exact .eq rfl|exact .fz rfl (by simp only[Bc,Rc])));done)
   (try clear hn;try clear he)
   try(try clear Q)
   have yv:oa.day=0\/oa.day=1:=Bv;have yw:ob.day=0\/ob.day=1:=Bv;rcases yv with yv|yv<;>rcases yw with yw|yw;all_goals
    rw[yv,yw]at iy;((try revert hK K);(repeat'(first|refine Va (X2 @yv @yw) ?_|(refine V2 (X2 @yv @yw) ?_ ?_<;>try with_reducible intro hb)|(refine Xi ?_ ?_<;>try intro ht)|refine VD ?_ ?_|exact Xx|fail))<;>try with_reducible intro K hK)
   ·rw[if_pos Bv]at iy;refine bc _ (y+1,bj++[1099511627776]) ⟨aad,aak,?_⟩ aad (Xs false [0,1,2,3,4,5,6,11] X0);rw[show f oa ob=1099511627776 from iy]at gH;exact gH
   ·rw[if_neg Bv]at iy;refine bc _ (y+1,bj++[c3]) ⟨aad,aak,?_⟩ aad (Xs false [0,1,2,3,4,5,6,11] X0);rw[show f oa ob=c3 from iy]at gH;exact gH
   ·rw[if_neg Bv]at iy;refine bc _ (y+1,bj++[c3]) ⟨aad,aak,?_⟩ aad (Xs false [0,1,2,3,4,5,6,11] X0);rw[show f oa ob=c3 from iy]at gH;exact gH
   ·rw[if_pos Bv]at iy;refine bc _ (y+1,bj++[c1]) ⟨aad,aak,?_⟩ aad (Xs false [0,1,2,3,4,5,6,11] X0);rw[show f oa ob=c1 from iy]at gH;exact gH
   ·rw[if_neg Bv]at iy;refine bc _ (y+1,bj++[0]) ⟨aad,aak,?_⟩ aad (Xs false [0,1,2,3,4,5,6,11] X0);rw[show f oa ob=0 from iy]at gH;exact gH
   ·rw[if_neg Bv]at iy;refine bc _ (y+1,bj++[0]) ⟨aad,aak,?_⟩ aad (Xs false [0,1,2,3,4,5,6,11] X0);rw[show f oa ob=0 from iy]at gH;exact gH
   ·rw[if_pos Bv]at iy;refine bc _ (y+1,bj++[c2]) ⟨aad,aak,?_⟩ aad (Xs false [0,1,2,3,4,5,6,11] X0);rw[show f oa ob=c2 from iy]at gH;exact gH
   ·rw[if_neg Bv]at iy;refine bc _ (y+1,bj++[c4]) ⟨aad,aak,?_⟩ aad (Xs false [0,1,2,3,4,5,6,11] X0);rw[show f oa ob=c4 from iy]at gH;exact gH
   ·rw[if_neg Bv]at iy;refine bc _ (y+1,bj++[c4]) ⟨aad,aak,?_⟩ aad (Xs false [0,1,2,3,4,5,6,11] X0);rw[show f oa ob=c4 from iy]at gH;exact gH
   ·rw[if_pos Bv]at iy;refine bc _ (y+1,bj++[1099511627776]) ⟨aad,aak,?_⟩ aad (Xs false [0,1,2,3,4,5,6,11] X0);rw[show f oa ob=1099511627776 from iy]at gH;exact gH
   ·rw[if_neg Bv]at iy;refine bc _ (y+1,bj++[0]) ⟨aad,aak,?_⟩ aad (Xs false [0,1,2,3,4,5,6,11] X0);rw[show f oa ob=0 from iy]at gH;exact gH
   ·rw[if_neg Bv]at iy;refine bc _ (y+1,bj++[0]) ⟨aad,aak,?_⟩ aad (Xs false [0,1,2,3,4,5,6,11] X0);rw[show f oa ob=0 from iy]at gH;exact gH
  ·((try revert hK K);(repeat'(first|refine Va @tV ?_|(refine V2 @tV ?_ ?_<;>try with_reducible intro hb)|(refine Xi ?_ ?_<;>try intro ht)|refine VD ?_ ?_|exact Xx|fail))<;>try with_reducible intro K hK)
   rw[dW Bv,tT]at gH;refine bz _ _ rfl ?_;clear bc bz dh;repeat(first|refine Xu ?_)
   ((try revert hK K);(repeat'(first|refine Va X0 ?_|(refine V2 X0 ?_ ?_<;>try with_reducible intro hb)|(refine Xi ?_ ?_<;>try intro ht)|refine VD ?_ ?_|exact Xx|fail))<;>try with_reducible intro K hK)
   exact an _ (x+1,bj) ⟨aad,aad,by rw[gH];exact hr⟩ aad (Xv X0)
 ·((try revert hK K);(repeat'(first|refine Va @u3 ?_|(refine V2 @u3 ?_ ?_<;>try with_reducible intro hb)|(refine Xi ?_ ?_<;>try intro ht)|refine VD ?_ ?_|exact Xx|fail))<;>try with_reducible intro K hK)
  rw[dW Bv,tU]at hr;refine aw _ _ rfl ?_;clear an aw Ql;repeat(first|refine Xu ?_)
  refine cU (aC.rq 7 4 3 1 rfl rfl (by rw[sW];rfl) (lh _) (o9 _)) ?_;((try revert hK K);(repeat'(first|refine Vb X0 ?_|(refine V2 X0 ?_ ?_<;>try with_reducible intro hb)|(refine Xi ?_ ?_<;>try intro ht)|refine VD ?_ ?_|exact Xx|fail))<;>try with_reducible intro K hK)
  rw[<- hr];simp(disch:=omega)only[Ac,↓Pc,simprocAttr,eM];exact Xw true [0,1] X0
def abZ(L:List Int)(d:Nat)(m:ah)(bN:Nat)(hd:d<=L.length)(hL:L.length<1000000)(hb:m.cls.length<=24)(GF:bN<=24)(dK:1<m.rules)(hl:∀ l∈m.cls,l.length<=24):
  di Tryz.prog 48 [.ptr 0 0 0,.agg (aB m),aam bN] [fV L d] (λr os=>∃ aI d',d'<=L.length/\aI.length<=2*bN/\(∀ c∈aI,fP ⟨m.cls,[],[],m.rules⟩ c=true)/\r=.tree 4 (rowsOf cN aI)/\os=[fV L d']):=by
 unfold fV;have lO:∀ i,(m.cls.getD i default).length<=24:=λi=>by
  rcases dr i m.cls.length with h|h
  ·exact hl _ (aF (d:=default) h)
  ·rw[ax,fO h];decide
 refine di.aL 102 1 [.tmp 6] Tryz.func48 ?_;((try revert hK K);(repeat'(first|refine Vb X0 ?_|(refine V2 X0 ?_ ?_<;>try with_reducible intro hb)|(refine Xi ?_ ?_<;>try intro ht)|refine VD ?_ ?_|exact Xx|fail))<;>try with_reducible intro K hK)
 refine aW (λz:Nat×Nat×List Int=>(⟨ao [(0,.ptr 0 0 0),(2,aam bN),(4,.ptr 1 0 0),(7,.ref 2 1 0 z.2.2.length),(8,aam z.1)],[.var [.tree 1 (ints L),aam z.2.1],.var (aB m),.arr 1 (ints z.2.2)]⟩:St))
  (λz=>z.1<=m.cls.length/\z.2.1<=L.length/\z.2.2.length=z.1/\∀ x∈z.2.2,1<=x/\x<=3) (λz=>m.cls.length-z.1) (0,d,[]) ⟨aS _,hd,rfl,Jy⟩ ?_ ?_
 ·refine aC.trans (aC.nil 7 1 (by simp only[Kc,simprocAttr]) aac) ?_;exact Xv X0
 clear hd;rintro⟨i,d,ws⟩⟨hi,hd,yx,IC⟩Ql an aw;dsimp only at hi hd yx IC ⊢;by_cases hi':i<m.cls.length
 ·((try revert hK K);(repeat'(first|refine Va X0 ?_|(refine V2 X0 ?_ ?_<;>try with_reducible intro hb)|(refine Xi ?_ ?_<;>try intro ht)|refine VD ?_ ?_|exact Xx|fail))<;>try with_reducible intro K hK)
  refine fw [0] (j' L d 3 (by unfold eN;omega) hd hL) aac ⟨rfl,trivial⟩ ⟨.eq rfl,.pure rfl,trivial⟩ ?_;have ll:=ke (L:=L) (k:=d) (n:=3) Bv;have gU:=fQ hd;generalize dX L d 3=n1 at *;generalize db L d=d2 at *;clear hd;((try revert hK K);(repeat'(first|refine Va X0 ?_|(refine V2 X0 ?_ ?_<;>try with_reducible intro hb)|(refine Xi ?_ ?_<;>try intro ht)|refine VD ?_ ?_|exact Xx|fail))<;>try with_reducible intro K hK)
  refine an _ (i+1,d2,ws++[1+n1]) ⟨aad,gU,aak,λx hx=>?_⟩ aad (Xs false [0,1,4] X0);rcases bE.1 hx with h|h
  ·exact IC x h
  ·rw[bK.1 h];omega
 obtain rfl:i=m.cls.length:=Bv;((try revert hK K);(repeat'(first|refine Va X0 ?_|(refine V2 X0 ?_ ?_<;>try with_reducible intro hb)|(refine Xi ?_ ?_<;>try intro ht)|refine VD ?_ ?_|exact Xx|fail))<;>try with_reducible intro K hK)
 refine aw _ _ rfl ?_;clear an aw Ql;repeat(first|refine Xu ?_)
 clear hi hi';refine cU (σ':=⟨ao [(0,.ptr 0 0 0),(2,aam bN),(4,.ptr 1 0 0),(7,.tree 1 (ints ws))],[.var [.tree 1 (ints L),aam d],.var (aB m)]⟩) (Xs true [0,1] X0) ?_;((try revert hK K);(repeat'(first|refine Va X0 ?_|(refine V2 X0 ?_ ?_<;>try with_reducible intro hb)|(refine Xi ?_ ?_<;>try intro ht)|refine VD ?_ ?_|exact Xx|fail))<;>try with_reducible intro K hK)
 refine aW (λz:Nat×Nat×List Ct=>(⟨ao [(0,.ptr 0 0 0),(2,aam bN),(4,.ptr 1 0 0),(7,.tree 1 (ints ws)),(9,.ref 2 4 0 z.2.2.length),(10,aam z.1)],[.var [.tree 1 (ints L),aam z.2.1],.var (aB m),.arr 4 (rowsOf cN z.2.2)]⟩:St))
  (λz=>z.1<=2/\z.2.1<=L.length/\z.2.2.length<=z.1*bN/\∀ x∈z.2.2,fP ⟨m.cls,[],[],m.rules⟩ x=true) (λz=>2-z.1) (0,d,[]) ⟨aS _,hd,aS _,Jy⟩ ?_ ?_
 ·refine aC.trans (aC.nil 9 4 (by simp only[Kc,simprocAttr]) aac) ?_;exact Xv X0
 clear hd;rintro⟨t,d,aI⟩⟨fJ,hd,cz,nW⟩Ql an aw;dsimp only at fJ hd cz nW ⊢;by_cases ht2:t<2
 ·have D0:t*bN<=24:=by
   have:t*bN<=1*bN:=Nat.mul_le_mul_right _ Bv;omega
  have abU:(t+1)*bN=t*bN+bN:=by rw[eB,sA]
  generalize t*bN=tr at *;((try revert hK K);(repeat'(first|refine Va X0 ?_|(refine V2 X0 ?_ ?_<;>try with_reducible intro hb)|(refine Xi ?_ ?_<;>try intro ht)|refine VD ?_ ?_|exact Xx|fail))<;>try with_reducible intro K hK)
  refine fw [0] (j' L d 5 (by unfold eN;omega) hd hL) aac ⟨rfl,trivial⟩ ⟨.eq rfl,.pure rfl,trivial⟩ ?_;have kk:=ke (L:=L) (k:=d) (n:=5) Bv;have gU:=fQ hd;generalize dX L d 5=n2 at *;generalize db L d=d2 at *;clear hd;((try revert hK K);(repeat'(first|refine Va X0 ?_|(refine V2 X0 ?_ ?_<;>try with_reducible intro hb)|(refine Xi ?_ ?_<;>try intro ht)|refine VD ?_ ?_|exact Xx|fail))<;>try with_reducible intro K hK)
  refine fw [0] (yq L d2 gU hL) aac ⟨rfl,trivial⟩ ⟨.eq rfl,trivial⟩ ?_;obtain⟨qf,uv,tR⟩:=yr L d2;have hd:=tS gU;generalize jM L d2=cv at *;generalize dm L d2=d at *;clear gU;have IB:fv (max 1 cv)=true:=by
   by_cases h0:0<cv
   ·rw[show max 1 cv=cv by omega];exact tR h0
   ·rw[show max 1 cv=1 by omega];decide
  generalize cy:max 1 cv=bW at *;unfold fV;((try revert hK K);(repeat'(first|refine Va @cy ?_|(refine V2 @cy ?_ ?_<;>try with_reducible intro hb)|(refine Xi ?_ ?_<;>try intro ht)|refine VD ?_ ?_|exact Xx|fail))<;>try with_reducible intro K hK)
  refine aW (λz:Nat×List Ct=>(⟨ao [(0,.ptr 0 0 0),(2,aam bN),(4,.ptr 1 0 0),(7,.tree 1 (ints ws)),(9,.ref 2 4 0 z.2.length),(10,aam t),(11,aam n2),(12,aam bW),(13,aam z.1)],[.var [.tree 1 (ints L),aam d],.var (aB m),.arr 4 (rowsOf cN z.2)]⟩:St))
   (λz=>z.1<=bN/\z.2.length<=tr+z.1/\∀ x∈z.2,fP ⟨m.cls,[],[],m.rules⟩ x=true) (λz=>bN-z.1) (0,aI) ⟨aS _,aad,nW⟩ (Xv X0) ?_
  clear cz nW;rintro⟨r,aI⟩⟨hr,cz,nW⟩dh bc bz;dsimp only at hr cz nW ⊢;by_cases nJ:r<bN
  ·((try revert hK K);(repeat'(first|refine Va X0 ?_|(refine V2 X0 ?_ ?_<;>try with_reducible intro hb)|(refine Xi ?_ ?_<;>try intro ht)|refine VD ?_ ?_|exact Xx|fail))<;>try with_reducible intro K hK)
   refine aW (λz:Nat×List Ld=>(⟨ao [(0,.ptr 0 0 0),(2,aam bN),(4,.ptr 1 0 0),(7,.tree 1 (ints ws)),(9,.ref 2 4 0 aI.length),(10,aam t),(11,aam n2),(12,aam bW),(13,aam r),(14,.ptr 3 0 0),(15,aam z.1)],
     [.var [.tree 1 (ints L),aam d],.var (aB m),.arr 4 (rowsOf cN aI),.var [aam 1,.ref 4 3 0 z.2.length,aam n2,aam bW],.arr 3 (rowsOf kH z.2)]⟩:St))
    (λz=>z.1<=m.cls.length/\rU m.cls m.rules z.2 z.1 0) (λz=>m.cls.length-z.1) (0,[]) ⟨aS _,rfl,Jy,Jy⟩ ?_ ?_
   ·refine aC.trans (aC.nH 3 1 3 rfl rfl aac) ?_;exact Xv X0
   rintro⟨i,e9⟩⟨hi,hI⟩nB g7 gz;dsimp only at hi hI ⊢;by_cases hi':i<m.cls.length
   ·have pt:=lO i;have hwi:=IC _ (aF (l:=ws) (i:=i) (d:=0) Bv);generalize TL:ws.getD i 0=w at *;generalize cJ:m.cls.getD i default=li at *;((try revert hK K);(repeat'(first|refine Va @cJ ?_|(refine V2 @cJ ?_ ?_<;>try with_reducible intro hb)|(refine Xi ?_ ?_<;>try intro ht)|refine VD ?_ ?_|exact Xx|fail))<;>try with_reducible intro K hK)
    refine aW (λz:Nat×List Ld=>(⟨ao [(0,.ptr 0 0 0),(2,aam bN),(4,.ptr 1 0 0),(7,.tree 1 (ints ws)),(9,.ref 2 4 0 aI.length),(10,aam t),(11,aam n2),(12,aam bW),(13,aam r),(14,.ptr 3 0 0),(15,aam i),(16,aam z.1)],
      [.var [.tree 1 (ints L),aam d],.var (aB m),.arr 4 (rowsOf cN aI),.var [aam 1,.ref 4 3 0 z.2.length,aam n2,aam bW],.arr 3 (rowsOf kH z.2)]⟩:St))
     (λz=>z.1<=li.length/\rU m.cls m.rules z.2 i z.1) (λz=>li.length-z.1) (0,e9) ⟨aS _,hI⟩ (Xv X0) ?_
    clear hI;rintro⟨j,e9⟩⟨hj,hI⟩D7 wI n7;dsimp only at hj hI ⊢;have ab3:=hI.len;by_cases eF:j<li.length
    ·generalize jP:li.getD j default=o at *;((try revert hK K);(repeat'(first|refine Va (X3 @cJ @jP @TL) ?_|(refine V2 (X3 @cJ @jP @TL) ?_ ?_<;>try with_reducible intro hb)|(refine Xi ?_ ?_<;>try intro ht)|refine VD ?_ ?_|exact Xx|fail))<;>try with_reducible intro K hK)
     ·rw[show rowsOf kH e9++[[AV.lit (.int .i64 i),AV.lit (.int .i64 j),AV.lit (.int .i64 w)]]=rowsOf kH (e9++[⟨i,j,w⟩]) from nF (enc:=kH) e9 ⟨i,j,w⟩];refine wI _ (j+1,e9++[⟨i,j,w⟩]) ⟨aad,hI.app hi' (by rw[cJ];exact eF) ⟨Bv,Bv⟩⟩ aad ?_;exact Xs false [0,1,2,3,7] X0
     all_goals exact wI _ (j+1,e9) ⟨aad,hI.mono Bv Bv⟩ aad (Xs false [0,1,2,3,4] X0)
    ·((try revert hK K);(repeat'(first|refine Va @cJ ?_|(refine V2 @cJ ?_ ?_<;>try with_reducible intro hb)|(refine Xi ?_ ?_<;>try intro ht)|refine VD ?_ ?_|exact Xx|fail))<;>try with_reducible intro K hK)
     refine n7 _ _ rfl ?_;clear wI n7 D7;repeat(first|refine Xu ?_)
     ((try revert hK K);(repeat'(first|refine Va X0 ?_|(refine V2 X0 ?_ ?_<;>try with_reducible intro hb)|(refine Xi ?_ ?_<;>try intro ht)|refine VD ?_ ?_|exact Xx|fail))<;>try with_reducible intro K hK)
     exact g7 _ (i+1,e9) ⟨aad,hI.mono Bv Bv⟩ aad (Xv X0)
   ·((try revert hK K);(repeat'(first|refine Va X0 ?_|(refine V2 X0 ?_ ?_<;>try with_reducible intro hb)|(refine Xi ?_ ?_<;>try intro ht)|refine VD ?_ ?_|exact Xx|fail))<;>try with_reducible intro K hK)
    refine gz _ _ rfl ?_;clear g7 gz nB;repeat(first|refine Xu ?_)
    refine cU (aC.rq 4 3 1 3 rfl rfl (by rw[cK];rfl) (nD _) (sV _)) ?_;refine cU (σ':=⟨ao [(0,.ptr 0 0 0),(2,aam bN),(4,.ptr 1 0 0),(7,.tree 1 (ints ws)),(9,.ref 2 4 0 aI.length),(10,aam t),(11,aam n2),(12,aam bW),(13,aam r),(14,.ptr 3 0 0)],
      [.var [.tree 1 (ints L),aam d],.var (aB m),.arr 4 (rowsOf cN aI),.var (cN ⟨1,e9,n2,bW⟩),.gone]⟩) (Xv X0) ?_
    ((try revert hK K);(repeat'(first|refine Va X0 ?_|(refine V2 X0 ?_ ?_<;>try with_reducible intro hb)|(refine Xi ?_ ?_<;>try intro ht)|refine VD ?_ ?_|exact Xx|fail))<;>try with_reducible intro K hK)
    rw[show rowsOf cN aI++[[AV.lit (.int .i64 1),AV.tree 3 (rowsOf kH e9),AV.lit (.int .i64 n2),AV.lit (.int .i64 bW)]]=rowsOf cN (aI++[⟨1,e9,n2,bW⟩]) from nF (enc:=cN) aI ⟨1,e9,n2,bW⟩];refine bc _ (r+1,aI++[⟨1,e9,n2,bW⟩]) ⟨aad,aak,λx hx=>?_⟩ aad ?_
    ·rcases bE.1 hx with hx|hx
     ·exact nW x hx
     ·simp only[bK]at hx;subst hx;unfold fP g6;simp only[bb,decide_eq_true_eq];exact⟨⟨⟨Bv,Bv⟩,IB⟩,hI.ok⟩
    ·exact Xs false [0,1,6] X0
  ·((try revert hK K);(repeat'(first|refine Va X0 ?_|(refine V2 X0 ?_ ?_<;>try with_reducible intro hb)|(refine Xi ?_ ?_<;>try intro ht)|refine VD ?_ ?_|exact Xx|fail))<;>try with_reducible intro K hK)
   refine bz _ _ rfl ?_;clear bc bz dh;repeat(first|refine Xu ?_)
   ((try revert hK K);(repeat'(first|refine Va X0 ?_|(refine V2 X0 ?_ ?_<;>try with_reducible intro hb)|(refine Xi ?_ ?_<;>try intro ht)|refine VD ?_ ?_|exact Xx|fail))<;>try with_reducible intro K hK)
   exact an _ (t+1,d,aI) ⟨aad,hd,aad,nW⟩ aad (Xv X0)
 obtain rfl:t=2:=Bv;((try revert hK K);(repeat'(first|refine Va X0 ?_|(refine V2 X0 ?_ ?_<;>try with_reducible intro hb)|(refine Xi ?_ ?_<;>try intro ht)|refine VD ?_ ?_|exact Xx|fail))<;>try with_reducible intro K hK)
 refine aw _ _ rfl ?_;clear an aw Ql;repeat(first|refine Xu ?_)
 ((try revert hK K);(repeat'(first|refine Va X0 ?_|(refine V2 X0 ?_ ?_<;>try with_reducible intro hb)|(refine Xi ?_ ?_<;>try intro ht)|refine VD ?_ ?_|exact Xx|fail))<;>try with_reducible intro K hK)
 unfold jm;simp only[fc,eM];simp(disch:=omega)only[Ac,↓Pc,simprocAttr];refine⟨_,_,⟨aI,d,hd,cz,nW,rfl,rfl⟩,?_⟩;exact Xw true [0] X0
end T

