import Derived.Test.YtfoopmojjjpapaaGreatX16
import Derived.Test.YtfoopmojjjpapaaGreatX23
import Derived.Test.YtfoopmojjjpapaaGreatX17
set_option linter.all false
set_option maxHeartbeats 0
set_option maxRecDepth 20000
open List renaming cons_append→ek,nil_append→gv,mem_append→cT,mem_singleton→c8,mem_of_mem_drop→xL
open Nat renaming zero_le→aW
open Int renaming mul_le_mul→su
open Go Go.Am Go.Proofs
namespace T
def vr(L:List Int)(k:Nat):Ob:=.var [.tree 1 (ints L),Oi k]
def yl(m:ah):List AV:=[.tree 1 (rowsOf aV m.cls),.ref 1 4 0 m.ae.length,.tree 4 (rowsOf df m.aC),Oi m.rules]
def aeQ{P:Program}{f:FuncId}{args:List AV}{aa:List Ob}{ic Zk:AV->List Ob->Prop}(h:dy P f args aa ic)(ht:∀ r os,ic r os->∃ r2 os2,Zk r2 os2/\aF aa.length ⟨λk=>[r].getD k .undef,os⟩ ⟨λk=>[r2].getD k .undef,os2⟩):dy P f args aa Zk:=by
 refine⟨h.1,λγ jx j3=>Calls.mono (h.2 γ jx j3) ?_⟩;rintro e w'⟨res,ba,cv,az,h0,h1,h2,h3,h4,h5⟩;obtain⟨r2,os2,hp,ht⟩:=ht res ba h0;obtain⟨C3,a1,a2,a3,a4⟩:=ht aa γ az rfl h4 h5;exact⟨r2,os2,cv,C3,hp,h1,a1.trans h2,a2.trans h3,a3,a4⟩
def aeR(m:ah)(o:Ob)(ho:∀ ρ,bM ρ o=o):aF 1 ⟨λk=>[AV.agg (yl m)].getD k .undef,[o,.arr 4 (rowsOf aG m.ae)]⟩ ⟨λk=>[AV.agg (aq m)].getD k .undef,[o]⟩:=by
 have e:∀ x:AV,(λk=>[x].getD k AV.undef)=ao [(0,x)]:=λx=>by
  funext k;cases k<;>rfl
 rw[e (.agg (aq m))];refine aF.aj [0] true _ _ IP ⟨⟨IM,.inr (by rw[ho];rfl)⟩,trivial⟩ IP (λi hi=>by
  obtain rfl:i=0:=AT;rfl) ⟨?_,trivial⟩
 refine(bT.agg _ _ rfl (mf.spec (R:=bT _ _ _ _) (cs:=aq m) (ds:=yl m) ⟨.pure rfl,bT.cC rfl (kI _) (by rw[cr]) (qg IP) (qB _),.pure rfl,.pure rfl,trivial⟩).2)
def aeK (L:List Int) (k:Nat) (vF options:Nat) (hk:k<=L.length) (hL:L.length<1000000) (hc:vF<=24) (ho:options<=24) (Zl:1<=options) :
    dy Tryz.prog 37 [.ptr 0 0 0,Oi vF,Oi options] [vr L k] (λr os=>∃ m k',MM m vF options/\k'<=L.length/\r=.agg (yl m)/\os=[vr L k',.arr 4 (rowsOf aG m.ae)]):=by
  unfold vr
  refine dy.aN 199 1 [.cell 6 32] Tryz.func37 ?_
  ((refine Vb X0 ?_)<;>try with_reducible intro K hK)
  refine jc [0] (pC L k 4 (by unfold fM;omega) hk hL) IP ⟨rfl,trivial⟩ ⟨.eq rfl,.pure rfl,trivial⟩ ?_
  have hv:=qG (L:=L) (k:=k) (n:=4) AT
  have cE:=lP hk
  generalize iD L k 4=v at *
  generalize eZ L k=k2 at *
  clear hk
  ((try revert hK K);(refine Vb X0 ?_)<;>try with_reducible intro K hK)
  refine jc [0] (pC L k2 (vF+1) (by unfold fM;omega) cE hL) IP ⟨rfl,trivial⟩ ⟨.eq rfl,.pure rfl,trivial⟩ ?_
  have ME:=qG (L:=L) (k:=k2) (n:=vF+1) AT
  have mX:=lP cE
  generalize iD L k2 (vF+1)=n at *
  generalize eZ L k2=k3 at *
  clear cE
  obtain ⟨c0,rfl⟩ :∃c0:Nat,n=c0:=⟨n.toNat,AT⟩
  generalize hR:1+v=R
  have FO:1<=R/\R<=4:=AT
  ((try revert hK K);(refine Vb X0 ?_))
  refine bb (λz:Nat×Nat×List (List cP)=>(⟨ao [(0,.ptr 0 0 0),(2,Oi options),(6,.ptr 1 0 0),(7,.ptr 2 0 0),(8,Oi z.1)],cK L z.2.1 z.2.2 [] [] R⟩:St))
    (λz=>z.1+z.2.2.length<=vF/\z.2.1<=L.length/\∀ l∈z.2.2,(1<=l.length/\l.length<=options)/\TH R l) (λz=>z.1) (c0,k3,[]) ⟨N0,mX,IM⟩ ?_ ?_
  · refine aF.trans (aF.sV 2 0 1 rfl rfl IP) ?_
    refine aF.trans (aF.sV 2 1 4 rfl rfl IP) ?_
    refine aF.trans (aF.sV 2 2 4 rfl rfl IP) ?_
    exact Xv X0
  clear ME mX
  rintro ⟨c,k,cls⟩ ⟨bc,hk,uI⟩ Ql ak au
  dsimp only at bc hk uI ⊢
  unfold cK
  by_cases mj:0<c
  · obtain ⟨c',rfl⟩ :∃c',c=c'+1:=⟨c - 1,AT⟩
    have kH:((c'+1:Nat):Int) - 1=c':=AT
    ((repeat' (first|refine Va X0 ?_|(refine Xi ?_ ?_<;>try intro ht)|exact Xx|fail))<;>try with_reducible intro K hK)
    refine jc [0] (pC L k options (by unfold fM;omega) hk hL) IP ⟨rfl,trivial⟩ ⟨.eq rfl,.pure rfl,trivial⟩ ?_
    have ME:=qG (L:=L) (k:=k) (n:=options) AT
    have cE:=lP hk
    generalize iD L k options=n at *
    generalize eZ L k=k2 at *
    clear hk
    obtain ⟨e0,gP⟩ :∃e0:Nat,1+n=e0:=⟨(1+n).toNat,AT⟩
    ((try revert hK K);(refine Va @gP ?_))
    refine bb (λz:Nat×Nat×List cP=>(⟨ao [(0,.ptr 0 0 0),(2,Oi options),(6,.ptr 1 0 0),(7,.ptr 2 0 0),(8,Oi (c'+1:Nat)),(9,.ref 6 6 0 z.2.2.length),(10,Oi z.1)],cK L z.2.1 cls [] [] R++[.arr 6 (rowsOf dK z.2.2)]⟩:St))
      (λz=>z.1+z.2.2.length=e0/\z.2.1<=L.length/\TH R z.2.2) (λz=>z.1) (e0,k2,[]) ⟨IM,cE,by intro o ho;simp at ho⟩ ?_ ?_
    · refine aF.trans (aF.nil 9 6 (by simp only[Kc,simprocAttr]) IP) ?_
      unfold cK
      exact Xv X0
    clear cE
    rintro ⟨e,k,l⟩ ⟨w8,hk,hl⟩ dL bO bQ
    dsimp only at w8 hk hl ⊢
    unfold cK
    simp only[ek,gv]
    by_cases vn:0<e
    · obtain ⟨e',rfl⟩ :∃e',e=e'+1:=⟨e - 1,AT⟩
      have mU:((e'+1:Nat):Int) - 1=e':=AT
      ((repeat' (first|refine Va X0 ?_|(refine Xi ?_ ?_<;>try intro ht)|exact Xx|fail))<;>try with_reducible intro K hK)
      refine jc [0] (pC L k 3 (by unfold fM;omega) hk hL) IP ⟨rfl,trivial⟩ ⟨.eq rfl,.pure rfl,trivial⟩ ?_
      have k9:=qG (L:=L) (k:=k) (n:=3) AT
      have cE:=lP hk
      generalize iD L k 3=n1 at *
      generalize eZ L k=k2 at *
      clear hk
      ((try revert hK K);(refine Va X0 ?_)<;>try with_reducible intro K hK)
      refine jc [0] (pC L k2 2 (by unfold fM;omega) cE hL) IP ⟨rfl,trivial⟩ ⟨.eq rfl,.pure rfl,trivial⟩ ?_
      have hk:=lP cE
      generalize iD L k2 2=n2 at *
      generalize eZ L k2=k at *
      clear cE
      ((try revert hK K);(refine Va X0 ?_)<;>try with_reducible intro K hK)
      refine jc [0] (pC L k 3 (by unfold fM;omega) hk hL) IP ⟨rfl,trivial⟩ ⟨.eq rfl,.pure rfl,trivial⟩ ?_
      have cE:=lP hk
      generalize iD L k 3=n3 at *
      generalize eZ L k=k2 at *
      clear hk
      ((try revert hK K);(refine Va X0 ?_)<;>try with_reducible intro K hK)
      refine jc [0] (pC L k2 3 (by unfold fM;omega) cE hL) IP ⟨rfl,trivial⟩ ⟨.eq rfl,.pure rfl,trivial⟩ ?_
      have hn4:=qG (L:=L) (k:=k2) (n:=3) AT
      have hk:=lP cE
      generalize iD L k2 3=n4 at *
      generalize eZ L k2=k at *
      clear cE
      ((try revert hK K);(refine Va X0 ?_))
      generalize Cl:1+n1=w1
      generalize hw4:n4 - 1=w4
      refine bb (λz:Nat×Nat×List (Int×Int)=>(⟨ao [(0,.ptr 0 0 0),(2,Oi options),(6,.ptr 1 0 0),(7,.ptr 2 0 0),(8,Oi (c'+1:Nat)),(9,.ref 6 6 0 l.length),(10,Oi (e'+1:Nat)),(11,.ptr 7 0 0),(12,Oi z.1)],
          cK L z.2.1 cls [] [] R++[.arr 6 (rowsOf dK l),.var [Oi w1,Oi n2,Oi n3,Oi 1,Oi w4,.ref 8 2 0 z.2.2.length],.arr 2 (rowsOf dv z.2.2)]⟩:St))
        (λz=>(z.1:Int)<=R/\z.2.1<=L.length/\z.2.2.length<=z.1/\ej R none z.2.2=true/\∀ x∈z.2.2,x.1<z.1) (λz=>R.toNat - z.1) (0,k,[]) ⟨NZ,hk,Nat.le_refl _,rfl,IM⟩ ?_ ?_
      · refine aF.trans (aF.sV 7 5 2 rfl rfl IP) ?_
        unfold cK
        exact Xv X0
      clear hk
      rintro ⟨u,k,ch⟩ ⟨hu,hk,bn,kM,aS⟩ nR iR gD
      dsimp only at hu hk bn kM aS ⊢
      unfold cK
      simp only[ek,gv]
      by_cases MF:(u:Int)<R
      · ((repeat' (first|refine Va X0 ?_|(refine Xi ?_ ?_<;>try intro ht)|exact Xx|fail))<;>try with_reducible intro K hK)
        refine jc [0] (Ml L k hk hL) IP ⟨rfl,trivial⟩ ⟨.eq rfl,trivial⟩ ?_
        obtain ⟨oh,x8,Eu⟩:=K' L k
        have cE:=La hk
        generalize pJ L k=cv at *
        generalize vD L k=k2 at *
        clear hk
        ((try revert hK K);(repeat' (first|refine Va X0 ?_|(refine V2 X0 ?_ ?_<;>try with_reducible intro hb)|(refine Xi ?_ ?_<;>try intro ht)|exact Xx|fail))<;>try with_reducible intro K hK)
        · refine jc [0] (Gt L k2 2 (by unfold fM;omega) IP cE hL) IP ⟨rfl,trivial⟩ ⟨.eq rfl,.pure rfl,trivial⟩ ?_
          have hk:=lP cE
          generalize Dz L k2 2=b at *
          generalize eZ L k2=k at *
          clear cE
          ((try revert hK K);(repeat' (first|refine Va X0 ?_|(refine Xi ?_ ?_<;>try intro ht)|fail)))
          · refine iR _ (u+1,k,ch++[((u:Int),cv)]) ⟨NZ,hk,N0,TC kM (by rw[jJ,decide_eq_true_eq];omega) (Eu AT) (λx hx=>aS x hx) IM,λx hx=>?_⟩ NZ ?_
            · rcases cT.1 hx with hx | hx
              · have:=aS x hx;dsimp only;omega
              · simp only[c8] at hx;subst hx;dsimp only;omega
            · unfold cK
              simp only[ek,gv]
              rw[show rowsOf dv ch++[[AV.lit (.int .i64 u),AV.lit (.int .i64 cv)]]=rowsOf dv (ch++[((u:Int),cv)]) from zL (enc:=dv) ch ((u:Int),cv)]
              exact Xs false [0,1,2,3,4,5,6,7,10] X0
          · exact iR _ (u+1,k,ch) ⟨NZ,hk,NZ,kM,λx hx=>by have:=aS x hx;dsimp only;omega⟩ NZ (by unfold cK;exact Xv X0)
        · exact iR _ (u+1,k2,ch) ⟨NZ,cE,NZ,kM,λx hx=>by have:=aS x hx;dsimp only;omega⟩ NZ (by unfold cK;exact Xv X0)
      · ((repeat' (first|refine Va X0 ?_|(refine Xi ?_ ?_<;>try intro ht)|exact Xx|fail)))
        refine gD _ _ rfl ?_
        clear iR gD nR
        repeat (refine Xu ?_)
        refine cd (aF.ye 8 7 5 2 rfl rfl (by rw[cr];rfl) (kI _) (qB _)) ?_
        refine cd (σ':=⟨ao [(0,.ptr 0 0 0),(2,Oi options),(6,.ptr 1 0 0),(7,.ptr 2 0 0),(8,Oi (c'+1:Nat)),(9,.ref 6 6 0 l.length),(10,Oi (e'+1:Nat)),(11,.ptr 7 0 0)],
            cK L k cls [] [] R++[.arr 6 (rowsOf dK l),.var (dK ⟨w1,n2,n3,1,w4,ch⟩),.gone]⟩) (by unfold cK;exact Xv X0) ?_
        unfold cK
        simp only[ek,gv]
        have mU:((e'+1:Nat):Int) - 1=e':=AT
        refine Va @mU ?_
        refine bO _ (e',k,l++[⟨w1,n2,n3,1,w4,ch⟩]) ⟨N0,hk,?_⟩ NZ ?_
        · intro o ho
          rcases cT.1 ho with ho | ho
          · exact hl o ho
          · simp only[c8] at ho;subst ho;exact⟨kM,NZ⟩
        · unfold cK
          simp only[ek,gv]
          rw[show rowsOf dK l++[[AV.lit (.int .i64 w1),AV.lit (.int .i64 n2),AV.lit (.int .i64 n3),AV.lit (.int .i64 1),AV.lit (.int .i64 w4),AV.tree 2 (rowsOf dv ch)]]=rowsOf dK (l++[⟨w1,n2,n3,1,w4,ch⟩]) from zL (enc:=dK) l ⟨w1,n2,n3,1,w4,ch⟩]
          exact Xs false [0,1,2,3,4,5,10] X0
    · obtain rfl:e=0:=AT
      ((repeat' (first|refine Va X0 ?_|(refine Xi ?_ ?_<;>try intro ht)|exact Xx|fail)))
      refine bQ _ _ rfl ?_
      clear bO bQ dL
      repeat (refine Xu ?_)
      refine cd (σ':=⟨ao [(0,.ptr 0 0 0),(2,Oi options),(6,.ptr 1 0 0),(7,.ptr 2 0 0),(8,Oi (c'+1:Nat)),(9,.tree 6 (rowsOf dK l))],cK L k cls [] [] R⟩) ?_ ?_
      · unfold cK
        exact Xs true [0,1,2,3,4,5] X0
      unfold cK
      refine Va @kH ?_
      refine ak _ (c',k,cls++[l]) ⟨N0,hk,?_⟩ NZ ?_
      · intro x hx
        rcases cT.1 hx with hx | hx
        · exact uI x hx
        · simp only[c8] at hx;subst hx;exact⟨⟨AT,AT⟩,hl⟩
      · unfold cK
        rw[show rowsOf aV cls++[[AV.tree 6 (rowsOf dK l)]]=rowsOf aV (cls++[l]) from zL (enc:=aV) cls l]
        exact Xs false [0,1,2,7,4,5] X0
  obtain rfl:c=0:=AT
  ((repeat' (first|refine Va X0 ?_|(refine Xi ?_ ?_<;>try intro ht)|exact Xx|fail)))
  refine au _ _ rfl ?_;clear ak au Ql
  repeat (refine Xu ?_)
  clear mj
  refine cd (σ':=⟨ao [(0,.ptr 0 0 0),(6,.ptr 1 0 0),(7,.ptr 2 0 0)],cK L k cls [] [] R⟩) (by unfold cK;exact Xv X0) ?_
  unfold cK
  refine Va X0 ?_
  have bn:cls.length<=24:=AT
  have tE:∀ i,(cls.getD i default).length<=24:=λi=>by
    rcases Nat.lt_or_ge i cls.length with h | h
    · have:=(uI _ (aE (d:=default) h)).1;omega
    · rw[List.getD_eq_getElem?_getD,List.getElem?_eq_none h];decide
  refine bb (λz:Nat×Nat×List Pr=>(⟨ao [(0,.ptr 0 0 0),(6,.ptr 1 0 0),(7,.ptr 2 0 0),(14,Oi z.1)],cK L z.2.1 cls z.2.2 [] R⟩:St))
    (λz=>(z.1:Int)<=R/\z.2.1<=L.length/\xc cls R z.2.2 z.1 0 0) (λz=>R.toNat - z.1) (0,k,[]) ⟨NZ,hk,rfl,IM,IM⟩ (by unfold cK;exact Xv X0) ?_
  clear hk
  rintro ⟨u,k,ae⟩ ⟨hu,hk,hP⟩ Ql ak au
  dsimp only at hu hk hP ⊢
  unfold cK
  by_cases MF:(u:Int)<R
  · ((repeat' (first|refine Va X0 ?_|(refine Xi ?_ ?_<;>try intro ht)|exact Xx|fail)))
    refine bb (λz:Nat×Nat×List Pr=>(⟨ao [(0,.ptr 0 0 0),(6,.ptr 1 0 0),(7,.ptr 2 0 0),(14,Oi u),(15,Oi z.1)],cK L z.2.1 cls z.2.2 [] R⟩:St))
      (λz=>z.1<=cls.length/\z.2.1<=L.length/\xc cls R z.2.2 u z.1 0) (λz=>cls.length - z.1) (0,k,ae) ⟨NZ,hk,hP⟩ (by unfold cK;exact Xv X0) ?_
    clear hk hP
    rintro ⟨i,k,ae⟩ ⟨hi,hk,hP⟩ dL bO bQ
    dsimp only at hi hk hP ⊢
    unfold cK
    by_cases ar:i<cls.length
    · ((repeat' (first|refine Va X0 ?_|(refine Xi ?_ ?_<;>try intro ht)|exact Xx|fail)))
      refine bb (λz:Nat×Nat×List Pr=>(⟨ao [(0,.ptr 0 0 0),(6,.ptr 1 0 0),(7,.ptr 2 0 0),(14,Oi u),(15,Oi i),(16,Oi z.1)],cK L z.2.1 cls z.2.2 [] R⟩:St))
        (λz=>i<z.1/\z.1<=cls.length/\z.2.1<=L.length/\xc cls R z.2.2 u i z.1) (λz=>cls.length - z.1) (i+1,k,ae) ⟨NZ,NZ,hk,hP.mono AT AT⟩ (by unfold cK;exact Xv X0) ?_
      clear hk hP
      rintro ⟨j,k,ae⟩ ⟨oM,hj,hk,hP⟩ nR iR gD
      dsimp only at oM hj hk hP ⊢
      unfold cK
      by_cases fJ:j<cls.length
      · ((repeat' (first|refine Va X0 ?_|(refine Xi ?_ ?_<;>try intro ht)|exact Xx|fail))<;>try with_reducible intro K hK)
        refine jc [0] (Gt L k 3 (by unfold fM;omega) IP hk hL) IP ⟨rfl,trivial⟩ ⟨.eq rfl,.pure rfl,trivial⟩ ?_
        have cE:=lP hk
        generalize Dz L k 3=b at *
        generalize eZ L k=k2 at *
        clear hk
        have g1:=tE i
        have g2:=tE j
        have k8:=(uI _ (aE (d:=default) ar)).1
        have Fw:=(uI _ (aE (d:=default) fJ)).1
        have hmul:((cls.getD i default).length:Int) * (cls.getD j default).length=((cls.getD i default).length * (cls.getD j default).length:Nat):=IM
        have am6:(cls.getD i default).length * (cls.getD j default).length<=24 * 24:=Nat.mul_le_mul g1 g2
        generalize Bf:(cls.getD i default).length * (cls.getD j default).length=nn at *
        ((try revert hK K);(repeat' (first|refine Va @hmul ?_|(refine Xi ?_ ?_<;>try intro ht)|fail)))
        rotate_left
        · exact iR _ (j+1,k2,ae) ⟨NZ,NZ,cE,hP.mono AT AT⟩ NZ (by unfold cK;exact Xv X0)
        refine bb (λz:Nat×Nat×List Int=>(⟨ao [(0,.ptr 0 0 0),(6,.ptr 1 0 0),(7,.ptr 2 0 0),(14,Oi u),(15,Oi i),(16,Oi j),(17,.ptr 6 0 0),(18,Oi z.1)],
            cK L z.2.1 cls ae [] R++[.var [Oi i,Oi j,Oi u,.ref 7 1 0 z.2.2.length],.arr 1 (ints z.2.2)]⟩:St))
          (λz=>z.1+z.2.2.length=nn/\z.2.1<=L.length/\∀ x∈z.2.2,0<=x/\(0<x->jo x=true)) (λz=>z.1) (nn,k2,[]) ⟨IM,cE,IM⟩ ?_ ?_
        · refine aF.trans (aF.sV 6 3 1 rfl rfl IP) ?_
          unfold cK
          exact Xv X0
        clear cE
        rintro ⟨w,k,aB⟩ ⟨hw,hk,Al⟩ Me HI tB
        dsimp only at hw hk Al ⊢
        unfold cK
        simp only[ek,gv]
        by_cases A8:0<w
        · obtain ⟨w',rfl⟩ :∃w',w=w'+1:=⟨w - 1,AT⟩
          have Cl:((w'+1:Nat):Int) - 1=w':=AT
          ((repeat' (first|refine Va X0 ?_|(refine Xi ?_ ?_<;>try intro ht)|exact Xx|fail)))
          refine lI [] (.take 2 (.both 0 (.both 1 (.take 3 (.take 4 (.take 5 (.take 6 (.take 7 .nil))))) 3 (.take 1 (.take 4 (.take 5 (.take 6 (.take 7 .nil)))))) 3 (.take 0 (.take 1 (.take 4 (.take 5 (.take 6 (.take 7 .nil)))))))) rfl IP (by decide +kernel) ?_
          simp (disch:=omega) only[Ac,↓Pc,simprocAttr,mM,lF,lG,cj,dY]
          refine⟨⟨?_,?_⟩,?_⟩
          all_goals refine jc [0] (Ml L k hk hL) IP ⟨rfl,trivial⟩ ⟨.eq rfl,trivial⟩ ?_
          all_goals obtain ⟨oh,x8,Eu⟩:=K' L k
          all_goals have cE:=La hk
          all_goals generalize pJ L k=cv at *
          all_goals generalize vD L k=k2 at *
          all_goals simp (disch:=omega) only[Ac,↓Pc,simprocAttr,mM,lF,lG,cj,dY]
          all_goals refine⟨AT,?_⟩
          all_goals repeat (refine Xu ?_)
          all_goals ((repeat' (first|refine Va @Cl ?_|fail)))
          all_goals refine HI _ (w',k2,aB++[cv]) ⟨N0,cE,λx hx=>?_⟩ NZ ?_
          all_goals first
            | (rcases cT.1 hx with hx | hx
               · exact Al x hx
               · simp only[c8] at hx;subst hx;exact⟨oh,Eu⟩)
            | (unfold cK;simp only[ek,gv];exact Xs false [0,1,2,3,4,5,6,9] X0)
        · obtain rfl:w=0:=AT
          ((repeat' (first|refine Va X0 ?_|(refine Xi ?_ ?_<;>try intro ht)|exact Xx|fail)))
          refine tB _ _ rfl ?_
          clear HI tB Me
          repeat (refine Xu ?_)
          refine cd (aF.ye 7 6 3 1 rfl rfl (by rw[vc];rfl) (vd _) (xX _)) ?_
          refine cd (σ':=⟨ao [(0,.ptr 0 0 0),(6,.ptr 1 0 0),(7,.ptr 2 0 0),(14,Oi u),(15,Oi i),(16,Oi j),(17,.ptr 6 0 0)],
              cK L k cls ae [] R++[.var (aG ⟨i,j,u,aB⟩),.gone]⟩) (by unfold cK;exact Xv X0) ?_
          unfold cK
          simp only[ek,gv]
          have eG:=hP.len
          refine Va X0 ?_
          refine iR _ (j+1,k,ae++[⟨i,j,u,aB⟩]) ⟨NZ,NZ,hk,hP.app (afH MF oM fJ (by rw[Bf];omega) Al)⟩ NZ ?_
          unfold cK
          rw[show rowsOf aG ae++[[AV.lit (.int .i64 i),AV.lit (.int .i64 j),AV.lit (.int .i64 u),AV.tree 1 (ints aB)]]=rowsOf aG (ae++[⟨i,j,u,aB⟩]) from zL (enc:=aG) ae ⟨i,j,u,aB⟩]
          exact Xs false [0,1,2,3,9,5] X0
      · ((repeat' (first|refine Va X0 ?_|(refine Xi ?_ ?_<;>try intro ht)|exact Xx|fail)))
        refine gD _ _ rfl ?_
        clear iR gD nR
        repeat (refine Xu ?_)
        refine Va X0 ?_
        exact bO _ (i+1,k,ae) ⟨NZ,hk,hP.mono AT AT⟩ NZ (by unfold cK;exact Xv X0)
    · ((repeat' (first|refine Va X0 ?_|(refine Xi ?_ ?_<;>try intro ht)|exact Xx|fail)))
      refine bQ _ _ rfl ?_
      clear bO bQ dL
      repeat (refine Xu ?_)
      refine Va X0 ?_
      exact ak _ (u+1,k,ae) ⟨NZ,hk,hP.mono AT AT⟩ NZ (by unfold cK;exact Xv X0)
  have aiM:=hP.ok
  have aiN:ae.length<=4000:=by have:=hP.len;omega
  ((repeat' (first|refine Va X0 ?_|(refine Xi ?_ ?_<;>try intro ht)|exact Xx|fail)))
  refine au _ _ rfl ?_;clear ak au Ql
  repeat (refine Xu ?_)
  refine cd (σ':=⟨ao [(0,.ptr 0 0 0),(6,.ptr 1 0 0),(7,.ptr 2 0 0)],cK L k cls ae [] R⟩) (by unfold cK;exact Xv X0) ?_
  clear MF hu hP
  unfold cK
  ((refine Va X0 ?_)<;>try with_reducible intro K hK)
  refine jc [0] (pC L k 3 (by unfold fM;omega) hk hL) IP ⟨rfl,trivial⟩ ⟨.eq rfl,.pure rfl,trivial⟩ ?_
  have ME:=qG (L:=L) (k:=k) (n:=3) AT
  have cE:=lP hk
  generalize iD L k 3=n at *
  generalize eZ L k=k2 at *
  clear hk
  obtain ⟨c1,rfl⟩ :∃c1:Nat,n=c1:=⟨n.toNat,AT⟩
  ((try revert hK K);(refine Va X0 ?_))
  refine bb (λz:Nat×Nat×List Ct=>(⟨ao [(0,.ptr 0 0 0),(6,.ptr 1 0 0),(7,.ptr 2 0 0),(19,Oi z.1)],cK L z.2.1 cls ae z.2.2 R⟩:St))
    (λz=>z.1+z.2.2.length<=2/\z.2.1<=L.length/\∀ x∈z.2.2,iW ⟨cls,[],[],R⟩ x=true) (λz=>z.1) (c1,k2,[]) ⟨N0,cE,IM⟩ (by unfold cK;exact Xv X0) ?_
  clear cE
  rintro ⟨c,k,aC⟩ ⟨bc,hk,MG⟩ Ql ak au
  dsimp only at bc hk MG ⊢
  unfold cK
  by_cases mj:0<c
  · obtain ⟨c',rfl⟩ :∃c',c=c'+1:=⟨c - 1,AT⟩
    have kH:((c'+1:Nat):Int) - 1=c':=AT
    ((repeat' (first|refine Va X0 ?_|(refine Xi ?_ ?_<;>try intro ht)|exact Xx|fail))<;>try with_reducible intro K hK)
    refine jc [0] (pC L k R (by unfold fM;omega) hk hL) IP ⟨rfl,trivial⟩ ⟨.eq rfl,.pure rfl,trivial⟩ ?_
    have k9:=qG (L:=L) (k:=k) (n:=R) AT
    have cE:=lP hk
    generalize iD L k R=n1 at *
    generalize eZ L k=k2 at *
    clear hk
    ((try revert hK K);(refine Va X0 ?_)<;>try with_reducible intro K hK)
    refine jc [0] (pC L k2 4 (by unfold fM;omega) cE hL) IP ⟨rfl,trivial⟩ ⟨.eq rfl,.pure rfl,trivial⟩ ?_
    have nI:=qG (L:=L) (k:=k2) (n:=4) AT
    have hk:=lP cE
    generalize iD L k2 4=n2 at *
    generalize eZ L k2=k at *
    clear cE
    ((try revert hK K);(refine Va X0 ?_)<;>try with_reducible intro K hK)
    refine jc [0] (Ml L k hk hL) IP ⟨rfl,trivial⟩ ⟨.eq rfl,trivial⟩ ?_
    obtain ⟨oh,x8,Eu⟩:=K' L k
    have cE:=La hk
    generalize pJ L k=cv at *
    generalize vD L k=k2 at *
    clear hk
    have Mj:jo (max 1 cv)=true:=by
      by_cases h0:0<cv
      · rw[show max 1 cv=cv by omega];exact Eu h0
      · rw[show max 1 cv=1 by omega];decide
    generalize cB:max 1 cv=cf at *
    ((try revert hK K);(refine Va @cB ?_))
    refine bb (λz:Nat×Nat×List Ld=>(⟨ao [(0,.ptr 0 0 0),(6,.ptr 1 0 0),(7,.ptr 2 0 0),(19,Oi (c'+1:Nat)),(20,.ptr 6 0 0),(21,Oi z.1)],
        cK L z.2.1 cls ae aC R++[.var [Oi n1,.ref 7 3 0 z.2.2.length,Oi n2,Oi cf],.arr 3 (rowsOf qC z.2.2)]⟩:St))
      (λz=>z.1<=cls.length/\z.2.1<=L.length/\yC cls R z.2.2 z.1 0) (λz=>cls.length - z.1) (0,k2,[]) ⟨aW _,cE,rfl,IM,IM⟩ ?_ ?_
    · refine aF.trans (aF.sV 6 1 3 rfl rfl IP) ?_
      unfold cK
      exact Xv X0
    clear cE
    rintro ⟨i,k,mz⟩ ⟨hi,hk,hI⟩ dL bO bQ
    dsimp only at hi hk hI ⊢
    unfold cK
    simp only[ek,gv]
    by_cases ar:i<cls.length
    · have k8:=tE i
      generalize fY:cls.getD i default=li at *
      ((repeat' (first|refine Va @fY ?_|(refine Xi ?_ ?_<;>try intro ht)|exact Xx|fail)))
      refine bb (λz:Nat×Nat×List Ld=>(⟨ao [(0,.ptr 0 0 0),(6,.ptr 1 0 0),(7,.ptr 2 0 0),(19,Oi (c'+1:Nat)),(20,.ptr 6 0 0),(21,Oi i),(22,Oi z.1)],
          cK L z.2.1 cls ae aC R++[.var [Oi n1,.ref 7 3 0 z.2.2.length,Oi n2,Oi cf],.arr 3 (rowsOf qC z.2.2)]⟩:St))
        (λz=>z.1<=li.length/\z.2.1<=L.length/\yC cls R z.2.2 i z.1) (λz=>li.length - z.1) (0,k,mz) ⟨aW _,hk,hI⟩ (by unfold cK;exact Xv (X2 @ek.{0} @gv.{0})) ?_
      clear hk hI
      rintro ⟨j,k,mz⟩ ⟨hj,hk,hI⟩ nR iR gD
      dsimp only at hj hk hI ⊢
      unfold cK
      simp only[ek,gv]
      have am7:=hI.len
      by_cases fJ:j<li.length
      · ((repeat' (first|refine Va @fY ?_|(refine Xi ?_ ?_<;>try intro ht)|exact Xx|fail))<;>try with_reducible intro K hK)
        refine jc [0] (Gt L k 2 (by unfold fM;omega) IP hk hL) IP ⟨rfl,trivial⟩ ⟨.eq rfl,.pure rfl,trivial⟩ ?_
        have cE:=lP hk
        generalize Dz L k 2=b at *
        generalize eZ L k=k2 at *
        clear hk
        ((try revert hK K);(repeat' (first|refine Va @fY ?_|(refine Xi ?_ ?_<;>try intro ht)|fail)))
        · refine lI [] (.take 2 (.take 3 (.take 4 (.both 0 (.both 1 (.take 5 (.take 6 (.take 7 (.take 8 (.take 9 (.take 10 (.take 11 .nil))))))) 5 (.take 1 (.take 6 (.take 7 (.take 8 (.take 9 (.take 10 (.take 11 .nil)))))))) 5 (.take 0 (.take 1 (.take 6 (.take 7 (.take 8 (.take 9 (.take 10 (.take 11 .nil)))))))))))) rfl IP (by decide +kernel) ?_
          simp (disch:=omega) only[Ac,↓Pc,simprocAttr,mM,lF,lG,cj,dY]
          refine⟨⟨?_,?_⟩,?_⟩
          all_goals refine jc [0] (pC L k2 3 (by unfold fM;omega) cE hL) IP ⟨rfl,trivial⟩ ⟨.eq rfl,.pure rfl,trivial⟩ ?_
          all_goals have hn3:=qG (L:=L) (k:=k2) (n:=3) AT
          all_goals have hk:=lP cE
          all_goals generalize iD L k2 3=n3 at *
          all_goals generalize eZ L k2=k at *
          all_goals clear cE
          all_goals simp (disch:=omega) only[Ac,↓Pc,simprocAttr,mM,lF,lG,cj,dY]
          all_goals refine⟨⟨AT,AT⟩,AT,?_⟩
          all_goals repeat (refine Xu ?_)
          all_goals ((repeat' (first|refine Va X0 ?_|fail)))
          all_goals refine iR _ (j+1,k,mz++[⟨i,j,1+n3⟩]) ⟨NZ,hk,hI.app ar (by rw[fY];exact fJ) ⟨AT,AT⟩⟩ NZ ?_
          all_goals unfold cK
          all_goals simp only[ek,gv]
          all_goals rw[show rowsOf qC mz++[[AV.lit (.int .i64 i),AV.lit (.int .i64 j),AV.lit (.int .i64 (1+n3))]]=rowsOf qC (mz++[⟨i,j,1+n3⟩]) from zL (enc:=qC) mz ⟨i,j,1+n3⟩]
          all_goals exact Xs false [0,1,2,3,4,5,6,9] X0
        · exact iR _ (j+1,k2,mz) ⟨NZ,cE,hI.mono AT AT⟩ NZ (by unfold cK;exact Xv (X2 @ek.{0} @gv.{0}))
      · ((repeat' (first|refine Va @fY ?_|(refine Xi ?_ ?_<;>try intro ht)|exact Xx|fail)))
        refine gD _ _ rfl ?_
        clear iR gD nR
        repeat (refine Xu ?_)
        refine Va X0 ?_
        exact bO _ (i+1,k,mz) ⟨NZ,hk,hI.mono AT AT⟩ NZ (by unfold cK;exact Xv (X2 @ek.{0} @gv.{0}))
    · ((repeat' (first|refine Va X0 ?_|(refine Xi ?_ ?_<;>try intro ht)|exact Xx|fail)))
      refine bQ _ _ rfl ?_
      clear bO bQ dL
      repeat (refine Xu ?_)
      refine cd (aF.ye 7 6 1 3 rfl rfl (by rw[cr];rfl) (kI _) (qB _)) ?_
      refine cd (σ':=⟨ao [(0,.ptr 0 0 0),(6,.ptr 1 0 0),(7,.ptr 2 0 0),(19,Oi (c'+1:Nat)),(20,.ptr 6 0 0)],
          cK L k cls ae aC R++[.var (df ⟨n1,mz,n2,cf⟩),.gone]⟩) (by unfold cK;exact Xv X0) ?_
      unfold cK
      simp only[ek,gv]
      refine Va @kH ?_
      refine ak _ (c',k,aC++[⟨n1,mz,n2,cf⟩]) ⟨N0,hk,?_⟩ NZ ?_
      · intro x hx
        rcases cT.1 hx with hx | hx
        · exact MG x hx
        · simp only[c8] at hx
          subst hx
          unfold iW jJ
          simp only[Bool.and_eq_true,decide_eq_true_eq]
          exact⟨⟨⟨AT,AT⟩,Mj⟩,hI.ok⟩
      · unfold cK
        rw[show rowsOf df aC++[[AV.lit (.int .i64 n1),AV.tree 3 (rowsOf qC mz),AV.lit (.int .i64 n2),AV.lit (.int .i64 cf)]]=rowsOf df (aC++[⟨n1,mz,n2,cf⟩]) from zL (enc:=df) aC ⟨n1,mz,n2,cf⟩]
        exact Xs false [0,1,2,3,4,9] X0
  obtain rfl:c=0:=AT
  ((repeat' (first|refine Va X0 ?_|(refine Xi ?_ ?_<;>try intro ht)|exact Xx|fail)))
  refine au _ _ rfl ?_;clear ak au Ql
  repeat (refine Xu ?_)
  refine Vb X0 ?_
  have hMM:MM ⟨cls,ae,aC,R⟩ vF options:=by
    refine⟨⟨NZ,λl hl=>by have:=(uI l hl).1;omega,aiN,NZ,NZ,λl hl o ho=>((uI l hl).2 o ho).1,?_,λx hx=>?_⟩,NZ,λl hl=>(uI l hl).1,FO,NZ,λl hl o ho=>((uI l hl).2 o ho).2⟩
    · exact (TF _ _).trans aiM
    · exact (afF _).trans (MG x hx)
  unfold kJ
  simp only[gm,fW]
  simp (disch:=omega) only[Ac,↓Pc,simprocAttr]
  refine⟨_,_,⟨⟨cls,ae,aC,R⟩,k,hMM,hk,rfl,rfl⟩,?_⟩
  refine u9 [0,4] true IP ⟨⟨IM,.inr rfl⟩,⟨IM,.inr (by rw[mW];rfl)⟩,trivial⟩ IP IP (bT.agg _ _ rfl (mf.spec (R:=bT _ _ _ _) (cs:=yl ⟨cls,ae,aC,R⟩) (ds:=[.ref 3 1 0 cls.length,.ref 4 4 0 ae.length,.ref 5 4 0 aC.length,Oi R]) ⟨?_,.eq rfl,?_,.pure rfl,trivial⟩).2)
  · first|exact .pure rfl|exact .eq rfl|exact .fz rfl (by simp only[Bc,Rc])
  · first|exact .pure rfl|exact .eq rfl|exact .fz rfl (by simp only[Bc,Rc])
structure mA(q:Nat)(m:ah):Prop where
 mb:MB m
 sZ:m.cls.length<=q
 opt:∀ l∈m.cls,l.length<=25
abbrev OM(m:ah):Prop:=mA 25 m
def mA.mono{q r:Nat}{m:ah}(h:mA q m)(hr:q<=r):mA r m:=⟨h.mb,Nat.le_trans h.sZ hr,h.opt⟩
def mA.rules{q:Nat}{m:ah}(h:mA q m)(r:Int):mA q ⟨m.cls,m.ae,m.aC,r⟩:=⟨⟨h.mb.cls,h.mb.opt,h.mb.ch,h.mb.ae,h.mb.aB,h.mb.aC,h.mb.mz⟩,h.sZ,h.opt⟩
def mA.ae{q:Nat}{m:ah}(h:mA q m){l:List Pr}(h1:l.length<9223372036854775808)(h2:∀ p∈l,p.aB.length<9223372036854775808):mA q ⟨m.cls,l,m.aC,m.rules⟩:=⟨⟨h.mb.cls,h.mb.opt,h.mb.ch,h1,h2,h.mb.aC,h.mb.mz⟩,h.sZ,h.opt⟩
def mA.aC{q:Nat}{m:ah}(h:mA q m){l:List Ct}(h1:l.length<9223372036854775808)(h2:∀ p∈l,p.aZ.length<9223372036854775808):mA q ⟨m.cls,m.ae,l,m.rules⟩:=⟨⟨h.mb.cls,h.mb.opt,h.mb.ch,h.mb.ae,h.mb.aB,h1,h2⟩,h.sZ,h.opt⟩
def mA.cls{q:Nat}{m:ah}(h:mA q m)(hq:q<=25){l:List (List cP)}(h1:l.length<=q)(h2:∀ x∈l,x.length<=25/\∀ o∈x,o.ch.length<9223372036854775808):mA q ⟨l,m.ae,m.aC,m.rules⟩ :=
 ⟨⟨NZ,λx hx=>by have:=(h2 x hx).1;omega,λx hx=>(h2 x hx).2,h.mb.ae,h.mb.aB,h.mb.aC,h.mb.mz⟩,h1,λx hx=>(h2 x hx).1⟩
def VM.om{m:ah}(h:VM m):OM m:=⟨h.mb,by have:=h.cls;omega,λl hl=>by have:=h.opt l hl;omega⟩
structure OMx(q:Nat)(m m':ah):Prop where
 om:mA (q+1) m'
 cl:m'.cls=m.cls\/∃ x,(∀ o∈x,o.wk<=3)/\m'.cls=m.cls++[x]
def oD:List (List cP)->Int
 |[]=>1
 |l::r=>l.length*oD r
def Ev:∀ (cls:List (List cP)),(∀ l∈cls,1<=l.length)->1<=oD cls
 |[],_=>Int.le_refl _
 |l::r,h=>by
  have h1:=h l IM;have h2:=Ev r λx hx=>h x (by simp[hx]);rw[oD];have:(1:Int)*1<=l.length*oD r:=su AT h2 AT AT;omega
def aeL(m:ah)(hm:VM m)(HT:∀ l∈m.cls,1<=l.length)(hb:oD m.cls<=9999):Holds Tryz.prog 19 [.agg (aq m)] [] (Oi (oD m.cls)) []:=by
 have mY:=hm.cls;have MH:=Ev m.cls HT;generalize an:oD m.cls=res at *;refine Holds.aN 26 0 [.tmp 2] Tryz.func19 ?_;refine Vb X0 ?_;refine bb (λz:Nat×Int=>(⟨ao [(1,.ptr 0 0 0),(3,Oi z.2),(4,Oi z.1)],[.var (aq m)]⟩:St)) (λz=>z.1<=m.cls.length/\1<=z.2/\z.2*oD (m.cls.drop z.1)=res) (λz=>m.cls.length-z.1) (0,1) ⟨aW _,IP,by rw[List.drop_zero,an];exact Int.one_mul _⟩ (Xv X0) ?_;rintro⟨i,n⟩⟨hi,k9,hr⟩Ql ak au;dsimp only at hi k9 hr ⊢;have Mx:=Ev (m.cls.drop i) λx hx=>HT x (xL hx);have am':n<=res:=by
  rw[<- hr];have:n*1<=n*oD (m.cls.drop i):=Int.mul_le_mul_of_nonneg_left Mx AT;omega
 by_cases ar:i<m.cls.length
 ·have qD:=hm.opt _ (aE (l:=m.cls) (i:=i) (d:=default) ar);have wV:=HT _ (aE (l:=m.cls) (i:=i) (d:=default) ar);rw[kh m.cls i default ar,oD,<- Int.mul_assoc]at hr;have Y9:=Ev (m.cls.drop (i+1)) λx hx=>HT x (xL hx);generalize bc:m.cls.getD i default=c at *;have tz:n*1<=n*(c.length:Int):=Int.mul_le_mul_of_nonneg_left AT AT;have uO:n*(c.length:Int)<=10000*24:=su AT AT AT AT;generalize xo:n*(c.length:Int)=nc at *;((repeat'(first|refine Va (X3 @bc @aV.eq_1 @xo) ?_|(refine V2 (X3 @bc @aV.eq_1 @xo) ?_ ?_<;>try with_reducible intro hb)|(refine Xi ?_ ?_<;>try intro ht)|exact Xx|fail)))
  exact ak _ (i+1,nc) ⟨NZ,NZ,hr⟩ NZ (Xv X0)
 ·rw[List.drop_eq_nil_of_le AT,oD,Int.mul_one]at hr;((repeat'(first|refine Va X0 ?_|(refine V2 X0 ?_ ?_<;>try with_reducible intro hb)|(refine Xi ?_ ?_<;>try intro ht)|exact Xx|fail)))
  all_goals
   refine au _ _ rfl ?_;clear ak au Ql;repeat(refine Xu ?_)
   refine Vb X0 ?_;exact aU rfl (by rw[<- hr,Int.min_eq_left AT])
def R0{w:Nat}:∀ (cls:List (List cP)) (k:Nat),1<=w->cls.length<=k->(∀ l∈cls,1<=l.length/\l.length<=w)->oD cls<=(w:Int)^k
 |[],k,hw,_,_=>by
  rw[oD];have:(0:Int)<(w:Int)^k:=Int.pow_pos AT;omega
 |l::r,0,_,hk,_=>by simp at hk
 |l::r,k+1,hw,hk,h=>by
  have h1:=h l IM;have h2:=R0 r k hw (by simpa using hk) λx hx=>h x (by simp[hx]);have h3:=Ev r λx hx=>(h x (by simp[hx])).1;rw[oD,Int.pow_succ,Int.mul_comm ((w:Int)^k)];exact su AT h2 AT AT
end T

