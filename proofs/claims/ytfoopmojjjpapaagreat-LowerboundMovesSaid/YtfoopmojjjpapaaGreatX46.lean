import Derived.Test.YtfoopmojjjpapaaGreatX31
set_option linter.all false
set_option maxHeartbeats 0
set_option maxRecDepth 20000
open List renaming cons_append→dh,nil_append→ec,mem_append→cC,mem_singleton→cU,mem_of_mem_drop→xH
open Nat renaming zero_le→aT
open Int renaming mul_le_mul→pT
open Go Go.Am Go.Proofs
namespace T
def gv(L:List Int)(k:Nat):Ob:=.var [.tree 1 (ints L),N0 k]
def yF(m:ah):List AV:=[.tree 1 (rowsOf aQ m.cls),.ref 1 4 0 m.ae.length,.tree 4 (rowsOf db m.aC),N0 m.rules]
def XT{P:Program}{f:FuncId}{args:List AV}{aa:List Ob}{hJ aa2:AV->List Ob->Prop}(h:cQ P f args aa hJ)(ht:∀ r os,hJ r os->∃ r2 os2,aa2 r2 os2/\aF aa.length ⟨λk=>[r].getD k .undef,os⟩ ⟨λk=>[r2].getD k .undef,os2⟩):cQ P f args aa aa2:=by
 refine⟨h.1,λγ jH kZ=>Calls.mono (h.2 γ jH kZ) ?_⟩;rintro e w'⟨res,a8,cv,az,h0,h1,h2,h3,h4,h5⟩;obtain⟨r2,os2,hp,ht⟩:=ht res a8 h0;obtain⟨Jo,a1,a2,a3,a4⟩:=ht aa γ az rfl h4 h5;exact⟨r2,os2,cv,Jo,hp,h1,a1.trans h2,a2.trans h3,a3,a4⟩
def XU(m:ah)(o:Ob)(ho:∀ ρ,bH ρ o=o):aF 1 ⟨λk=>[AV.agg (yF m)].getD k .undef,[o,.arr 4 (rowsOf aH m.ae)]⟩ ⟨λk=>[AV.agg (ao m)].getD k .undef,[o]⟩:=by
 have e:∀ x:AV,(λk=>[x].getD k AV.undef)=an [(0,x)]:=λx=>by
  funext k;cases k<;>rfl
 rw[e (.agg (ao m))];refine aF.aj [0] true _ _ NI ⟨⟨Iy,.inr (by rw[ho];rfl)⟩,trivial⟩ NI (λi hi=>by
  obtain rfl:i=0:=Ix;rfl) ⟨?_,trivial⟩
 refine(bw.agg _ _ rfl (ju.spec (R:=bw _ _ _ _) (cs:=ao m) (ds:=yF m) ⟨.pure rfl,bw.cG rfl (ig _) (by rw[cf]) (kh NI) (my _),.pure rfl,.pure rfl,trivial⟩).2)
def XQ (L:List Int) (k:Nat) (pC options:Nat) (hk:k<=L.length) (hL:L.length<1000000) (hc:pC<=24) (ho:options<=24) (HA:1<=options) :
    cQ Tryz.prog 37 [.ptr 0 0 0,N0 pC,N0 options] [gv L k] (λr os=>∃ m k',MM m pC options/\k'<=L.length/\r=.agg (yF m)/\os=[gv L k',.arr 4 (rowsOf aH m.ae)]):=by
  unfold gv
  refine cQ.aK 199 1 [.cell 6 32] Tryz.func37 ?_
  ((refine Vb X0 ?_)<;>try with_reducible intro K hK)
  refine jv [0] (gD L k 4 (by unfold cS;omega) hk hL) NI ⟨rfl,trivial⟩ ⟨.eq rfl,.pure rfl,trivial⟩ ?_
  have hv:=jB (L:=L) (k:=k) (n:=4) Ix
  have bd:=eQ hk
  generalize dN L k 4=v at *
  generalize cj L k=k2 at *
  clear hk
  ((try revert hK K);(refine Vb X0 ?_)<;>try with_reducible intro K hK)
  refine jv [0] (gD L k2 (pC+1) (by unfold cS;omega) bd hL) NI ⟨rfl,trivial⟩ ⟨.eq rfl,.pure rfl,trivial⟩ ?_
  have M5:=jB (L:=L) (k:=k2) (n:=pC+1) Ix
  have fU:=eQ bd
  generalize dN L k2 (pC+1)=n at *
  generalize cj L k2=k3 at *
  clear bd
  obtain ⟨c0,rfl⟩ :∃c0:Nat,n=c0:=⟨n.toNat,Ix⟩
  generalize hR:1+v=R
  have FN:1<=R/\R<=4:=Ix
  ((try revert hK K);(refine Vb X0 ?_))
  refine aU (λz:Nat×Nat×List (List cg)=>(⟨an [(0,.ptr 0 0 0),(2,N0 options),(6,.ptr 1 0 0),(7,.ptr 2 0 0),(8,N0 z.1)],cM L z.2.1 z.2.2 [] [] R⟩:St))
    (λz=>z.1+z.2.2.length<=pC/\z.2.1<=L.length/\∀ l∈z.2.2,(1<=l.length/\l.length<=options)/\W2 R l) (λz=>z.1) (c0,k3,[]) ⟨NS,fU,Iy⟩ ?_ ?_
  · refine aF.trans (aF.qt 2 0 1 rfl rfl NI) ?_
    refine aF.trans (aF.qt 2 1 4 rfl rfl NI) ?_
    refine aF.trans (aF.qt 2 2 4 rfl rfl NI) ?_
    exact Xv X0
  clear M5 fU
  rintro ⟨c,k,cls⟩ ⟨bc,hk,oK⟩ Ql ak ar
  dsimp only at bc hk oK ⊢
  unfold cM
  by_cases mR:0<c
  · obtain ⟨c',rfl⟩ :∃c',c=c'+1:=⟨c - 1,Ix⟩
    have lj:((c'+1:Nat):Int) - 1=c':=Ix
    ((repeat' (first|refine Va X0 ?_|(refine Xi ?_ ?_<;>try intro ht)|exact Xx|fail))<;>try with_reducible intro K hK)
    refine jv [0] (gD L k options (by unfold cS;omega) hk hL) NI ⟨rfl,trivial⟩ ⟨.eq rfl,.pure rfl,trivial⟩ ?_
    have M5:=jB (L:=L) (k:=k) (n:=options) Ix
    have bd:=eQ hk
    generalize dN L k options=n at *
    generalize cj L k=k2 at *
    clear hk
    obtain ⟨e0,nF⟩ :∃e0:Nat,1+n=e0:=⟨(1+n).toNat,Ix⟩
    ((try revert hK K);(refine Va @nF ?_))
    refine aU (λz:Nat×Nat×List cg=>(⟨an [(0,.ptr 0 0 0),(2,N0 options),(6,.ptr 1 0 0),(7,.ptr 2 0 0),(8,N0 (c'+1:Nat)),(9,.ref 6 6 0 z.2.2.length),(10,N0 z.1)],cM L z.2.1 cls [] [] R++[.arr 6 (rowsOf b6 z.2.2)]⟩:St))
      (λz=>z.1+z.2.2.length=e0/\z.2.1<=L.length/\W2 R z.2.2) (λz=>z.1) (e0,k2,[]) ⟨Iy,bd,by intro o ho;simp at ho⟩ ?_ ?_
    · refine aF.trans (aF.nil 9 6 (by simp only[Kc,simprocAttr]) NI) ?_
      unfold cM
      exact Xv X0
    clear bd
    rintro ⟨e,k,l⟩ ⟨uD,hk,hl⟩ c7 br bx
    dsimp only at uD hk hl ⊢
    unfold cM
    simp only[dh,ec]
    by_cases uh:0<e
    · obtain ⟨e',rfl⟩ :∃e',e=e'+1:=⟨e - 1,Ix⟩
      have kl:((e'+1:Nat):Int) - 1=e':=Ix
      ((repeat' (first|refine Va X0 ?_|(refine Xi ?_ ?_<;>try intro ht)|exact Xx|fail))<;>try with_reducible intro K hK)
      refine jv [0] (gD L k 3 (by unfold cS;omega) hk hL) NI ⟨rfl,trivial⟩ ⟨.eq rfl,.pure rfl,trivial⟩ ?_
      have lS:=jB (L:=L) (k:=k) (n:=3) Ix
      have bd:=eQ hk
      generalize dN L k 3=n1 at *
      generalize cj L k=k2 at *
      clear hk
      ((try revert hK K);(refine Va X0 ?_)<;>try with_reducible intro K hK)
      refine jv [0] (gD L k2 2 (by unfold cS;omega) bd hL) NI ⟨rfl,trivial⟩ ⟨.eq rfl,.pure rfl,trivial⟩ ?_
      have hk:=eQ bd
      generalize dN L k2 2=n2 at *
      generalize cj L k2=k at *
      clear bd
      ((try revert hK K);(refine Va X0 ?_)<;>try with_reducible intro K hK)
      refine jv [0] (gD L k 3 (by unfold cS;omega) hk hL) NI ⟨rfl,trivial⟩ ⟨.eq rfl,.pure rfl,trivial⟩ ?_
      have bd:=eQ hk
      generalize dN L k 3=n3 at *
      generalize cj L k=k2 at *
      clear hk
      ((try revert hK K);(refine Va X0 ?_)<;>try with_reducible intro K hK)
      refine jv [0] (gD L k2 3 (by unfold cS;omega) bd hL) NI ⟨rfl,trivial⟩ ⟨.eq rfl,.pure rfl,trivial⟩ ?_
      have hn4:=jB (L:=L) (k:=k2) (n:=3) Ix
      have hk:=eQ bd
      generalize dN L k2 3=n4 at *
      generalize cj L k2=k at *
      clear bd
      ((try revert hK K);(refine Va X0 ?_))
      generalize Cd:1+n1=w1
      generalize hw4:n4 - 1=w4
      refine aU (λz:Nat×Nat×List (Int×Int)=>(⟨an [(0,.ptr 0 0 0),(2,N0 options),(6,.ptr 1 0 0),(7,.ptr 2 0 0),(8,N0 (c'+1:Nat)),(9,.ref 6 6 0 l.length),(10,N0 (e'+1:Nat)),(11,.ptr 7 0 0),(12,N0 z.1)],
          cM L z.2.1 cls [] [] R++[.arr 6 (rowsOf b6 l),.var [N0 w1,N0 n2,N0 n3,N0 1,N0 w4,.ref 8 2 0 z.2.2.length],.arr 2 (rowsOf dm z.2.2)]⟩:St))
        (λz=>(z.1:Int)<=R/\z.2.1<=L.length/\z.2.2.length<=z.1/\eh R none z.2.2=true/\∀ x∈z.2.2,x.1<z.1) (λz=>R.toNat - z.1) (0,k,[]) ⟨NQ,hk,Nat.le_refl _,rfl,Iy⟩ ?_ ?_
      · refine aF.trans (aF.qt 7 5 2 rfl rfl NI) ?_
        unfold cM
        exact Xv X0
      clear hk
      rintro ⟨u,k,ch⟩ ⟨hu,hk,bG,ng,a6⟩ mC gG fI
      dsimp only at hu hk bG ng a6 ⊢
      unfold cM
      simp only[dh,ec]
      by_cases M6:(u:Int)<R
      · ((repeat' (first|refine Va X0 ?_|(refine Xi ?_ ?_<;>try intro ht)|exact Xx|fail))<;>try with_reducible intro K hK)
        refine jv [0] (Kd L k hk hL) NI ⟨rfl,trivial⟩ ⟨.eq rfl,trivial⟩ ?_
        obtain ⟨kN,xY,EE⟩:=KM L k
        have bd:=KO hk
        generalize py L k=cv at *
        generalize vz L k=k2 at *
        clear hk
        ((try revert hK K);(repeat' (first|refine Va X0 ?_|(refine V2 X0 ?_ ?_<;>try with_reducible intro hb)|(refine Xi ?_ ?_<;>try intro ht)|exact Xx|fail))<;>try with_reducible intro K hK)
        · refine jv [0] (Bs L k2 2 (by unfold cS;omega) NI bd hL) NI ⟨rfl,trivial⟩ ⟨.eq rfl,.pure rfl,trivial⟩ ?_
          have hk:=eQ bd
          generalize w0 L k2 2=b at *
          generalize cj L k2=k at *
          clear bd
          ((try revert hK K);(repeat' (first|refine Va X0 ?_|(refine Xi ?_ ?_<;>try intro ht)|fail)))
          · refine gG _ (u+1,k,ch++[((u:Int),cv)]) ⟨NQ,hk,NS,WV ng (by rw[jA,decide_eq_true_eq];omega) (EE Ix) (λx hx=>a6 x hx) Iy,λx hx=>?_⟩ NQ ?_
            · rcases cC.1 hx with hx | hx
              · have:=a6 x hx;dsimp only;omega
              · simp only[cU] at hx;subst hx;dsimp only;omega
            · unfold cM
              simp only[dh,ec]
              rw[show rowsOf dm ch++[[AV.lit (.int .i64 u),AV.lit (.int .i64 cv)]]=rowsOf dm (ch++[((u:Int),cv)]) from ox (enc:=dm) ch ((u:Int),cv)]
              exact Xs false [0,1,2,3,4,5,6,7,10] X0
          · exact gG _ (u+1,k,ch) ⟨NQ,hk,NQ,ng,λx hx=>by have:=a6 x hx;dsimp only;omega⟩ NQ (by unfold cM;exact Xv X0)
        · exact gG _ (u+1,k2,ch) ⟨NQ,bd,NQ,ng,λx hx=>by have:=a6 x hx;dsimp only;omega⟩ NQ (by unfold cM;exact Xv X0)
      · ((repeat' (first|refine Va X0 ?_|(refine Xi ?_ ?_<;>try intro ht)|exact Xx|fail)))
        refine fI _ _ rfl ?_
        clear gG fI mC
        repeat (refine Xu ?_)
        refine cr (aF.wW 8 7 5 2 rfl rfl (by rw[cf];rfl) (ig _) (my _)) ?_
        refine cr (σ':=⟨an [(0,.ptr 0 0 0),(2,N0 options),(6,.ptr 1 0 0),(7,.ptr 2 0 0),(8,N0 (c'+1:Nat)),(9,.ref 6 6 0 l.length),(10,N0 (e'+1:Nat)),(11,.ptr 7 0 0)],
            cM L k cls [] [] R++[.arr 6 (rowsOf b6 l),.var (b6 ⟨w1,n2,n3,1,w4,ch⟩),.gone]⟩) (by unfold cM;exact Xv X0) ?_
        unfold cM
        simp only[dh,ec]
        have kl:((e'+1:Nat):Int) - 1=e':=Ix
        refine Va @kl ?_
        refine br _ (e',k,l++[⟨w1,n2,n3,1,w4,ch⟩]) ⟨NS,hk,?_⟩ NQ ?_
        · intro o ho
          rcases cC.1 ho with ho | ho
          · exact hl o ho
          · simp only[cU] at ho;subst ho;exact⟨ng,NQ⟩
        · unfold cM
          simp only[dh,ec]
          rw[show rowsOf b6 l++[[AV.lit (.int .i64 w1),AV.lit (.int .i64 n2),AV.lit (.int .i64 n3),AV.lit (.int .i64 1),AV.lit (.int .i64 w4),AV.tree 2 (rowsOf dm ch)]]=rowsOf b6 (l++[⟨w1,n2,n3,1,w4,ch⟩]) from ox (enc:=b6) l ⟨w1,n2,n3,1,w4,ch⟩]
          exact Xs false [0,1,2,3,4,5,10] X0
    · obtain rfl:e=0:=Ix
      ((repeat' (first|refine Va X0 ?_|(refine Xi ?_ ?_<;>try intro ht)|exact Xx|fail)))
      refine bx _ _ rfl ?_
      clear br bx c7
      repeat (refine Xu ?_)
      refine cr (σ':=⟨an [(0,.ptr 0 0 0),(2,N0 options),(6,.ptr 1 0 0),(7,.ptr 2 0 0),(8,N0 (c'+1:Nat)),(9,.tree 6 (rowsOf b6 l))],cM L k cls [] [] R⟩) ?_ ?_
      · unfold cM
        exact Xs true [0,1,2,3,4,5] X0
      unfold cM
      refine Va @lj ?_
      refine ak _ (c',k,cls++[l]) ⟨NS,hk,?_⟩ NQ ?_
      · intro x hx
        rcases cC.1 hx with hx | hx
        · exact oK x hx
        · simp only[cU] at hx;subst hx;exact⟨⟨Ix,Ix⟩,hl⟩
      · unfold cM
        rw[show rowsOf aQ cls++[[AV.tree 6 (rowsOf b6 l)]]=rowsOf aQ (cls++[l]) from ox (enc:=aQ) cls l]
        exact Xs false [0,1,2,7,4,5] X0
  obtain rfl:c=0:=Ix
  ((repeat' (first|refine Va X0 ?_|(refine Xi ?_ ?_<;>try intro ht)|exact Xx|fail)))
  refine ar _ _ rfl ?_;clear ak ar Ql
  repeat (refine Xu ?_)
  clear mR
  refine cr (σ':=⟨an [(0,.ptr 0 0 0),(6,.ptr 1 0 0),(7,.ptr 2 0 0)],cM L k cls [] [] R⟩) (by unfold cM;exact Xv X0) ?_
  unfold cM
  refine Va X0 ?_
  have bG:cls.length<=24:=Ix
  have tz:∀ i,(cls.getD i default).length<=24:=λi=>by
    rcases Nat.lt_or_ge i cls.length with h | h
    · have:=(oK _ (aG (d:=default) h)).1;omega
    · rw[List.getD_eq_getElem?_getD,List.getElem?_eq_none h];decide
  refine aU (λz:Nat×Nat×List Pr=>(⟨an [(0,.ptr 0 0 0),(6,.ptr 1 0 0),(7,.ptr 2 0 0),(14,N0 z.1)],cM L z.2.1 cls z.2.2 [] R⟩:St))
    (λz=>(z.1:Int)<=R/\z.2.1<=L.length/\xe cls R z.2.2 z.1 0 0) (λz=>R.toNat - z.1) (0,k,[]) ⟨NQ,hk,rfl,Iy,Iy⟩ (by unfold cM;exact Xv X0) ?_
  clear hk
  rintro ⟨u,k,ae⟩ ⟨hu,hk,hP⟩ Ql ak ar
  dsimp only at hu hk hP ⊢
  unfold cM
  by_cases M6:(u:Int)<R
  · ((repeat' (first|refine Va X0 ?_|(refine Xi ?_ ?_<;>try intro ht)|exact Xx|fail)))
    refine aU (λz:Nat×Nat×List Pr=>(⟨an [(0,.ptr 0 0 0),(6,.ptr 1 0 0),(7,.ptr 2 0 0),(14,N0 u),(15,N0 z.1)],cM L z.2.1 cls z.2.2 [] R⟩:St))
      (λz=>z.1<=cls.length/\z.2.1<=L.length/\xe cls R z.2.2 u z.1 0) (λz=>cls.length - z.1) (0,k,ae) ⟨NQ,hk,hP⟩ (by unfold cM;exact Xv X0) ?_
    clear hk hP
    rintro ⟨i,k,ae⟩ ⟨hi,hk,hP⟩ c7 br bx
    dsimp only at hi hk hP ⊢
    unfold cM
    by_cases aq:i<cls.length
    · ((repeat' (first|refine Va X0 ?_|(refine Xi ?_ ?_<;>try intro ht)|exact Xx|fail)))
      refine aU (λz:Nat×Nat×List Pr=>(⟨an [(0,.ptr 0 0 0),(6,.ptr 1 0 0),(7,.ptr 2 0 0),(14,N0 u),(15,N0 i),(16,N0 z.1)],cM L z.2.1 cls z.2.2 [] R⟩:St))
        (λz=>i<z.1/\z.1<=cls.length/\z.2.1<=L.length/\xe cls R z.2.2 u i z.1) (λz=>cls.length - z.1) (i+1,k,ae) ⟨NQ,NQ,hk,hP.mono Ix Ix⟩ (by unfold cM;exact Xv X0) ?_
      clear hk hP
      rintro ⟨j,k,ae⟩ ⟨wm,hj,hk,hP⟩ mC gG fI
      dsimp only at wm hj hk hP ⊢
      unfold cM
      by_cases fe:j<cls.length
      · ((repeat' (first|refine Va X0 ?_|(refine Xi ?_ ?_<;>try intro ht)|exact Xx|fail))<;>try with_reducible intro K hK)
        refine jv [0] (Bs L k 3 (by unfold cS;omega) NI hk hL) NI ⟨rfl,trivial⟩ ⟨.eq rfl,.pure rfl,trivial⟩ ?_
        have bd:=eQ hk
        generalize w0 L k 3=b at *
        generalize cj L k=k2 at *
        clear hk
        have g1:=tz i
        have g2:=tz j
        have lg:=(oK _ (aG (d:=default) aq)).1
        have Fw:=(oK _ (aG (d:=default) fe)).1
        have hmul:((cls.getD i default).length:Int) * (cls.getD j default).length=((cls.getD i default).length * (cls.getD j default).length:Nat):=Iy
        have amT:(cls.getD i default).length * (cls.getD j default).length<=24 * 24:=Nat.mul_le_mul g1 g2
        generalize Fv:(cls.getD i default).length * (cls.getD j default).length=nn at *
        ((try revert hK K);(repeat' (first|refine Va @hmul ?_|(refine Xi ?_ ?_<;>try intro ht)|fail)))
        rotate_left
        · exact gG _ (j+1,k2,ae) ⟨NQ,NQ,bd,hP.mono Ix Ix⟩ NQ (by unfold cM;exact Xv X0)
        refine aU (λz:Nat×Nat×List Int=>(⟨an [(0,.ptr 0 0 0),(6,.ptr 1 0 0),(7,.ptr 2 0 0),(14,N0 u),(15,N0 i),(16,N0 j),(17,.ptr 6 0 0),(18,N0 z.1)],
            cM L z.2.1 cls ae [] R++[.var [N0 i,N0 j,N0 u,.ref 7 1 0 z.2.2.length],.arr 1 (ints z.2.2)]⟩:St))
          (λz=>z.1+z.2.2.length=nn/\z.2.1<=L.length/\∀ x∈z.2.2,0<=x/\(0<x->jk x=true)) (λz=>z.1) (nn,k2,[]) ⟨Iy,bd,Iy⟩ ?_ ?_
        · refine aF.trans (aF.qt 6 3 1 rfl rfl NI) ?_
          unfold cM
          exact Xv X0
        clear bd
        rintro ⟨w,k,ax⟩ ⟨hw,hk,uM⟩ LZ Hj sS
        dsimp only at hw hk uM ⊢
        unfold cM
        simp only[dh,ec]
        by_cases AZ:0<w
        · obtain ⟨w',rfl⟩ :∃w',w=w'+1:=⟨w - 1,Ix⟩
          have Cd:((w'+1:Nat):Int) - 1=w':=Ix
          ((repeat' (first|refine Va X0 ?_|(refine Xi ?_ ?_<;>try intro ht)|exact Xx|fail)))
          refine nY [] (.take 2 (.both 0 (.both 1 (.take 3 (.take 4 (.take 5 (.take 6 (.take 7 .nil))))) 3 (.take 1 (.take 4 (.take 5 (.take 6 (.take 7 .nil)))))) 3 (.take 0 (.take 1 (.take 4 (.take 5 (.take 6 (.take 7 .nil)))))))) rfl NI (by decide +kernel) ?_
          simp (disch:=omega) only[Ac,↓Pc,simprocAttr,mO,lQ,lP,bZ,dX]
          refine⟨⟨?_,?_⟩,?_⟩
          all_goals refine jv [0] (Kd L k hk hL) NI ⟨rfl,trivial⟩ ⟨.eq rfl,trivial⟩ ?_
          all_goals obtain ⟨kN,xY,EE⟩:=KM L k
          all_goals have bd:=KO hk
          all_goals generalize py L k=cv at *
          all_goals generalize vz L k=k2 at *
          all_goals simp (disch:=omega) only[Ac,↓Pc,simprocAttr,mO,lQ,lP,bZ,dX]
          all_goals refine⟨Ix,?_⟩
          all_goals repeat (refine Xu ?_)
          all_goals ((repeat' (first|refine Va @Cd ?_|fail)))
          all_goals refine Hj _ (w',k2,ax++[cv]) ⟨NS,bd,λx hx=>?_⟩ NQ ?_
          all_goals first
            | (rcases cC.1 hx with hx | hx
               · exact uM x hx
               · simp only[cU] at hx;subst hx;exact⟨kN,EE⟩)
            | (unfold cM;simp only[dh,ec];exact Xs false [0,1,2,3,4,5,6,9] X0)
        · obtain rfl:w=0:=Ix
          ((repeat' (first|refine Va X0 ?_|(refine Xi ?_ ?_<;>try intro ht)|exact Xx|fail)))
          refine sS _ _ rfl ?_
          clear Hj sS LZ
          repeat (refine Xu ?_)
          refine cr (aF.wW 7 6 3 1 rfl rfl (by rw[wL];rfl) (tY _) (wN _)) ?_
          refine cr (σ':=⟨an [(0,.ptr 0 0 0),(6,.ptr 1 0 0),(7,.ptr 2 0 0),(14,N0 u),(15,N0 i),(16,N0 j),(17,.ptr 6 0 0)],
              cM L k cls ae [] R++[.var (aH ⟨i,j,u,ax⟩),.gone]⟩) (by unfold cM;exact Xv X0) ?_
          unfold cM
          simp only[dh,ec]
          have dD:=hP.len
          refine Va X0 ?_
          refine gG _ (j+1,k,ae++[⟨i,j,u,ax⟩]) ⟨NQ,NQ,hk,hP.app (afY M6 wm fe (by rw[Fv];omega) uM)⟩ NQ ?_
          unfold cM
          rw[show rowsOf aH ae++[[AV.lit (.int .i64 i),AV.lit (.int .i64 j),AV.lit (.int .i64 u),AV.tree 1 (ints ax)]]=rowsOf aH (ae++[⟨i,j,u,ax⟩]) from ox (enc:=aH) ae ⟨i,j,u,ax⟩]
          exact Xs false [0,1,2,3,9,5] X0
      · ((repeat' (first|refine Va X0 ?_|(refine Xi ?_ ?_<;>try intro ht)|exact Xx|fail)))
        refine fI _ _ rfl ?_
        clear gG fI mC
        repeat (refine Xu ?_)
        refine Va X0 ?_
        exact br _ (i+1,k,ae) ⟨NQ,hk,hP.mono Ix Ix⟩ NQ (by unfold cM;exact Xv X0)
    · ((repeat' (first|refine Va X0 ?_|(refine Xi ?_ ?_<;>try intro ht)|exact Xx|fail)))
      refine bx _ _ rfl ?_
      clear br bx c7
      repeat (refine Xu ?_)
      refine Va X0 ?_
      exact ak _ (u+1,k,ae) ⟨NQ,hk,hP.mono Ix Ix⟩ NQ (by unfold cM;exact Xv X0)
  have akA:=hP.ok
  have akB:ae.length<=4000:=by have:=hP.len;omega
  ((repeat' (first|refine Va X0 ?_|(refine Xi ?_ ?_<;>try intro ht)|exact Xx|fail)))
  refine ar _ _ rfl ?_;clear ak ar Ql
  repeat (refine Xu ?_)
  refine cr (σ':=⟨an [(0,.ptr 0 0 0),(6,.ptr 1 0 0),(7,.ptr 2 0 0)],cM L k cls ae [] R⟩) (by unfold cM;exact Xv X0) ?_
  clear M6 hu hP
  unfold cM
  ((refine Va X0 ?_)<;>try with_reducible intro K hK)
  refine jv [0] (gD L k 3 (by unfold cS;omega) hk hL) NI ⟨rfl,trivial⟩ ⟨.eq rfl,.pure rfl,trivial⟩ ?_
  have M5:=jB (L:=L) (k:=k) (n:=3) Ix
  have bd:=eQ hk
  generalize dN L k 3=n at *
  generalize cj L k=k2 at *
  clear hk
  obtain ⟨c1,rfl⟩ :∃c1:Nat,n=c1:=⟨n.toNat,Ix⟩
  ((try revert hK K);(refine Va X0 ?_))
  refine aU (λz:Nat×Nat×List Ct=>(⟨an [(0,.ptr 0 0 0),(6,.ptr 1 0 0),(7,.ptr 2 0 0),(19,N0 z.1)],cM L z.2.1 cls ae z.2.2 R⟩:St))
    (λz=>z.1+z.2.2.length<=2/\z.2.1<=L.length/\∀ x∈z.2.2,iV ⟨cls,[],[],R⟩ x=true) (λz=>z.1) (c1,k2,[]) ⟨NS,bd,Iy⟩ (by unfold cM;exact Xv X0) ?_
  clear bd
  rintro ⟨c,k,aC⟩ ⟨bc,hk,M7⟩ Ql ak ar
  dsimp only at bc hk M7 ⊢
  unfold cM
  by_cases mR:0<c
  · obtain ⟨c',rfl⟩ :∃c',c=c'+1:=⟨c - 1,Ix⟩
    have lj:((c'+1:Nat):Int) - 1=c':=Ix
    ((repeat' (first|refine Va X0 ?_|(refine Xi ?_ ?_<;>try intro ht)|exact Xx|fail))<;>try with_reducible intro K hK)
    refine jv [0] (gD L k R (by unfold cS;omega) hk hL) NI ⟨rfl,trivial⟩ ⟨.eq rfl,.pure rfl,trivial⟩ ?_
    have lS:=jB (L:=L) (k:=k) (n:=R) Ix
    have bd:=eQ hk
    generalize dN L k R=n1 at *
    generalize cj L k=k2 at *
    clear hk
    ((try revert hK K);(refine Va X0 ?_)<;>try with_reducible intro K hK)
    refine jv [0] (gD L k2 4 (by unfold cS;omega) bd hL) NI ⟨rfl,trivial⟩ ⟨.eq rfl,.pure rfl,trivial⟩ ?_
    have mq:=jB (L:=L) (k:=k2) (n:=4) Ix
    have hk:=eQ bd
    generalize dN L k2 4=n2 at *
    generalize cj L k2=k at *
    clear bd
    ((try revert hK K);(refine Va X0 ?_)<;>try with_reducible intro K hK)
    refine jv [0] (Kd L k hk hL) NI ⟨rfl,trivial⟩ ⟨.eq rfl,trivial⟩ ?_
    obtain ⟨kN,xY,EE⟩:=KM L k
    have bd:=KO hk
    generalize py L k=cv at *
    generalize vz L k=k2 at *
    clear hk
    have LV:jk (max 1 cv)=true:=by
      by_cases h0:0<cv
      · rw[show max 1 cv=cv by omega];exact EE h0
      · rw[show max 1 cv=1 by omega];decide
    generalize cu:max 1 cv=bX at *
    ((try revert hK K);(refine Va @cu ?_))
    refine aU (λz:Nat×Nat×List Ld=>(⟨an [(0,.ptr 0 0 0),(6,.ptr 1 0 0),(7,.ptr 2 0 0),(19,N0 (c'+1:Nat)),(20,.ptr 6 0 0),(21,N0 z.1)],
        cM L z.2.1 cls ae aC R++[.var [N0 n1,.ref 7 3 0 z.2.2.length,N0 n2,N0 bX],.arr 3 (rowsOf qq z.2.2)]⟩:St))
      (λz=>z.1<=cls.length/\z.2.1<=L.length/\yy cls R z.2.2 z.1 0) (λz=>cls.length - z.1) (0,k2,[]) ⟨aT _,bd,rfl,Iy,Iy⟩ ?_ ?_
    · refine aF.trans (aF.qt 6 1 3 rfl rfl NI) ?_
      unfold cM
      exact Xv X0
    clear bd
    rintro ⟨i,k,lk⟩ ⟨hi,hk,hI⟩ c7 br bx
    dsimp only at hi hk hI ⊢
    unfold cM
    simp only[dh,ec]
    by_cases aq:i<cls.length
    · have lg:=tz i
      generalize fh:cls.getD i default=li at *
      ((repeat' (first|refine Va @fh ?_|(refine Xi ?_ ?_<;>try intro ht)|exact Xx|fail)))
      refine aU (λz:Nat×Nat×List Ld=>(⟨an [(0,.ptr 0 0 0),(6,.ptr 1 0 0),(7,.ptr 2 0 0),(19,N0 (c'+1:Nat)),(20,.ptr 6 0 0),(21,N0 i),(22,N0 z.1)],
          cM L z.2.1 cls ae aC R++[.var [N0 n1,.ref 7 3 0 z.2.2.length,N0 n2,N0 bX],.arr 3 (rowsOf qq z.2.2)]⟩:St))
        (λz=>z.1<=li.length/\z.2.1<=L.length/\yy cls R z.2.2 i z.1) (λz=>li.length - z.1) (0,k,lk) ⟨aT _,hk,hI⟩ (by unfold cM;exact Xv (X2 @dh.{0} @ec.{0})) ?_
      clear hk hI
      rintro ⟨j,k,lk⟩ ⟨hj,hk,hI⟩ mC gG fI
      dsimp only at hj hk hI ⊢
      unfold cM
      simp only[dh,ec]
      have amU:=hI.len
      by_cases fe:j<li.length
      · ((repeat' (first|refine Va @fh ?_|(refine Xi ?_ ?_<;>try intro ht)|exact Xx|fail))<;>try with_reducible intro K hK)
        refine jv [0] (Bs L k 2 (by unfold cS;omega) NI hk hL) NI ⟨rfl,trivial⟩ ⟨.eq rfl,.pure rfl,trivial⟩ ?_
        have bd:=eQ hk
        generalize w0 L k 2=b at *
        generalize cj L k=k2 at *
        clear hk
        ((try revert hK K);(repeat' (first|refine Va @fh ?_|(refine Xi ?_ ?_<;>try intro ht)|fail)))
        · refine nY [] (.take 2 (.take 3 (.take 4 (.both 0 (.both 1 (.take 5 (.take 6 (.take 7 (.take 8 (.take 9 (.take 10 (.take 11 .nil))))))) 5 (.take 1 (.take 6 (.take 7 (.take 8 (.take 9 (.take 10 (.take 11 .nil)))))))) 5 (.take 0 (.take 1 (.take 6 (.take 7 (.take 8 (.take 9 (.take 10 (.take 11 .nil)))))))))))) rfl NI (by decide +kernel) ?_
          simp (disch:=omega) only[Ac,↓Pc,simprocAttr,mO,lQ,lP,bZ,dX]
          refine⟨⟨?_,?_⟩,?_⟩
          all_goals refine jv [0] (gD L k2 3 (by unfold cS;omega) bd hL) NI ⟨rfl,trivial⟩ ⟨.eq rfl,.pure rfl,trivial⟩ ?_
          all_goals have Xt:=jB (L:=L) (k:=k2) (n:=3) Ix
          all_goals have hk:=eQ bd
          all_goals generalize dN L k2 3=n3 at *
          all_goals generalize cj L k2=k at *
          all_goals clear bd
          all_goals simp (disch:=omega) only[Ac,↓Pc,simprocAttr,mO,lQ,lP,bZ,dX]
          all_goals refine⟨⟨Ix,Ix⟩,Ix,?_⟩
          all_goals repeat (refine Xu ?_)
          all_goals ((repeat' (first|refine Va X0 ?_|fail)))
          all_goals refine gG _ (j+1,k,lk++[⟨i,j,1+n3⟩]) ⟨NQ,hk,hI.app aq (by rw[fh];exact fe) ⟨Ix,Ix⟩⟩ NQ ?_
          all_goals unfold cM
          all_goals simp only[dh,ec]
          all_goals rw[show rowsOf qq lk++[[AV.lit (.int .i64 i),AV.lit (.int .i64 j),AV.lit (.int .i64 (1+n3))]]=rowsOf qq (lk++[⟨i,j,1+n3⟩]) from ox (enc:=qq) lk ⟨i,j,1+n3⟩]
          all_goals exact Xs false [0,1,2,3,4,5,6,9] X0
        · exact gG _ (j+1,k2,lk) ⟨NQ,bd,hI.mono Ix Ix⟩ NQ (by unfold cM;exact Xv (X2 @dh.{0} @ec.{0}))
      · ((repeat' (first|refine Va @fh ?_|(refine Xi ?_ ?_<;>try intro ht)|exact Xx|fail)))
        refine fI _ _ rfl ?_
        clear gG fI mC
        repeat (refine Xu ?_)
        refine Va X0 ?_
        exact br _ (i+1,k,lk) ⟨NQ,hk,hI.mono Ix Ix⟩ NQ (by unfold cM;exact Xv (X2 @dh.{0} @ec.{0}))
    · ((repeat' (first|refine Va X0 ?_|(refine Xi ?_ ?_<;>try intro ht)|exact Xx|fail)))
      refine bx _ _ rfl ?_
      clear br bx c7
      repeat (refine Xu ?_)
      refine cr (aF.wW 7 6 1 3 rfl rfl (by rw[cf];rfl) (ig _) (my _)) ?_
      refine cr (σ':=⟨an [(0,.ptr 0 0 0),(6,.ptr 1 0 0),(7,.ptr 2 0 0),(19,N0 (c'+1:Nat)),(20,.ptr 6 0 0)],
          cM L k cls ae aC R++[.var (db ⟨n1,lk,n2,bX⟩),.gone]⟩) (by unfold cM;exact Xv X0) ?_
      unfold cM
      simp only[dh,ec]
      refine Va @lj ?_
      refine ak _ (c',k,aC++[⟨n1,lk,n2,bX⟩]) ⟨NS,hk,?_⟩ NQ ?_
      · intro x hx
        rcases cC.1 hx with hx | hx
        · exact M7 x hx
        · simp only[cU] at hx
          subst hx
          unfold iV jA
          simp only[Bool.and_eq_true,decide_eq_true_eq]
          exact⟨⟨⟨Ix,Ix⟩,LV⟩,hI.ok⟩
      · unfold cM
        rw[show rowsOf db aC++[[AV.lit (.int .i64 n1),AV.tree 3 (rowsOf qq lk),AV.lit (.int .i64 n2),AV.lit (.int .i64 bX)]]=rowsOf db (aC++[⟨n1,lk,n2,bX⟩]) from ox (enc:=db) aC ⟨n1,lk,n2,bX⟩]
        exact Xs false [0,1,2,3,4,9] X0
  obtain rfl:c=0:=Ix
  ((repeat' (first|refine Va X0 ?_|(refine Xi ?_ ?_<;>try intro ht)|exact Xx|fail)))
  refine ar _ _ rfl ?_;clear ak ar Ql
  repeat (refine Xu ?_)
  refine Vb X0 ?_
  have hMM:MM ⟨cls,ae,aC,R⟩ pC options:=by
    refine⟨⟨NQ,λl hl=>by have:=(oK l hl).1;omega,akB,NQ,NQ,λl hl o ho=>((oK l hl).2 o ho).1,?_,λx hx=>?_⟩,NQ,λl hl=>(oK l hl).1,FN,NQ,λl hl o ho=>((oK l hl).2 o ho).2⟩
    · exact (WY _ _).trans akA
    · exact (afX _).trans (M7 x hx)
  unfold eH
  simp only[dx,dv]
  simp (disch:=omega) only[Ac,↓Pc,simprocAttr]
  refine⟨_,_,⟨⟨cls,ae,aC,R⟩,k,hMM,hk,rfl,rfl⟩,?_⟩
  refine j1 [0,4] true NI ⟨⟨Iy,.inr rfl⟩,⟨Iy,.inr (by rw[vr];rfl)⟩,trivial⟩ NI NI (bw.agg _ _ rfl (ju.spec (R:=bw _ _ _ _) (cs:=yF ⟨cls,ae,aC,R⟩) (ds:=[.ref 3 1 0 cls.length,.ref 4 4 0 ae.length,.ref 5 4 0 aC.length,N0 R]) ⟨?_,.eq rfl,?_,.pure rfl,trivial⟩).2)
  · first|exact .pure rfl|exact .eq rfl|exact .fz rfl (by simp only[Bc,Rc])
  · first|exact .pure rfl|exact .eq rfl|exact .fz rfl (by simp only[Bc,Rc])
def af5(L:List Int)(k:Nat)(pC options:Nat)(hk:k<=L.length)(hL:L.length<1000000)(hc:pC<=24)(ho:options<=24)(HA:1<=options):
  cQ Tryz.prog 37 [.ptr 0 0 0,N0 pC,N0 options] [gv L k] (λr os=>∃ m k',MM m pC options/\k'<=L.length/\r=.agg (ao m)/\os=[gv L k']) :=
 XT (XQ L k pC options hk hL hc ho HA) λr os h=>by
  obtain⟨m,k',h1,h2,rfl,rfl⟩:=h;exact⟨_,_,⟨m,k',h1,h2,rfl,rfl⟩,XU m _ (λ_=>rfl)⟩
def oI:List (List cg)->Int
 |[]=>1
 |l::r=>l.length*oI r
def EF:∀ (cls:List (List cg)),(∀ l∈cls,1<=l.length)->1<=oI cls
 |[],_=>Int.le_refl _
 |l::r,h=>by
  have h1:=h l Iy;have h2:=EF r λx hx=>h x (by simp[hx]);rw[oI];have:(1:Int)*1<=l.length*oI r:=pT Ix h2 Ix Ix;omega
def agv(m:ah)(hm:VM m)(Ib:∀ l∈m.cls,1<=l.length)(hb:oI m.cls<=9999):Holds Tryz.prog 19 [.agg (ao m)] [] (N0 (oI m.cls)) []:=by
 have qE:=hm.cls;have M8:=EF m.cls Ib;generalize au:oI m.cls=res at *;refine Holds.aK 26 0 [.tmp 2] Tryz.func19 ?_;refine Vb X0 ?_;refine aU (λz:Nat×Int=>(⟨an [(1,.ptr 0 0 0),(3,N0 z.2),(4,N0 z.1)],[.var (ao m)]⟩:St)) (λz=>z.1<=m.cls.length/\1<=z.2/\z.2*oI (m.cls.drop z.1)=res) (λz=>m.cls.length-z.1) (0,1) ⟨aT _,NI,by rw[List.drop_zero,au];exact Int.one_mul _⟩ (Xv X0) ?_;rintro⟨i,n⟩⟨hi,lS,hr⟩Ql ak ar;dsimp only at hi lS hr ⊢;have L4:=EF (m.cls.drop i) λx hx=>Ib x (xH hx);have amW:n<=res:=by
  rw[<- hr];have:n*1<=n*oI (m.cls.drop i):=Int.mul_le_mul_of_nonneg_left L4 Ix;omega
 by_cases aq:i<m.cls.length
 ·have uH:=hm.opt _ (aG (l:=m.cls) (i:=i) (d:=default) aq);have hl1:=Ib _ (aG (l:=m.cls) (i:=i) (d:=default) aq);rw[j2 m.cls i default aq,oI,<- Int.mul_assoc]at hr;have YN:=EF (m.cls.drop (i+1)) λx hx=>Ib x (xH hx);generalize bc:m.cls.getD i default=c at *;have sR:n*1<=n*(c.length:Int):=Int.mul_le_mul_of_nonneg_left Ix Ix;have uk:n*(c.length:Int)<=10000*24:=pT Ix Ix Ix Ix;generalize zH:n*(c.length:Int)=nc at *;((repeat'(first|refine Va (X3 @bc @aQ.eq_1 @zH) ?_|(refine V2 (X3 @bc @aQ.eq_1 @zH) ?_ ?_<;>try with_reducible intro hb)|(refine Xi ?_ ?_<;>try intro ht)|exact Xx|fail)))
  exact ak _ (i+1,nc) ⟨NQ,NQ,hr⟩ NQ (Xv X0)
 ·rw[List.drop_eq_nil_of_le Ix,oI,Int.mul_one]at hr;((repeat'(first|refine Va X0 ?_|(refine V2 X0 ?_ ?_<;>try with_reducible intro hb)|(refine Xi ?_ ?_<;>try intro ht)|exact Xx|fail)))
  all_goals
   refine ar _ _ rfl ?_;clear ak ar Ql;repeat(refine Xu ?_)
   refine Vb X0 ?_;exact aS rfl (by rw[<- hr,Int.min_eq_left Ix])
def XR{w:Nat}:∀ (cls:List (List cg)) (k:Nat),1<=w->cls.length<=k->(∀ l∈cls,1<=l.length/\l.length<=w)->oI cls<=(w:Int)^k
 |[],k,hw,_,_=>by
  rw[oI];have:(0:Int)<(w:Int)^k:=Int.pow_pos Ix;omega
 |l::r,0,_,hk,_=>by simp at hk
 |l::r,k+1,hw,hk,h=>by
  have h1:=h l Iy;have h2:=XR r k hw (by simpa using hk) λx hx=>h x (by simp[hx]);have h3:=EF r λx hx=>(h x (by simp[hx])).1;rw[oI,Int.pow_succ,Int.mul_comm ((w:Int)^k)];exact pT Ix h2 Ix Ix
end T

