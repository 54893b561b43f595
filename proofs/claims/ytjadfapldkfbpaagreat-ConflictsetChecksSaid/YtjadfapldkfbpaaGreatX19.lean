import Derived.Test.YtjadfapldkfbpaaGreatX18
set_option linter.all false
set_option maxHeartbeats 0
set_option maxRecDepth 20000
open List renaming cons_append→dP,nil_append→dZ,mem_append→cz,mem_singleton→ec,mem_of_mem_drop→vT,drop_eq_nil_of_le→cM
open Nat renaming zero_le→aF
open Int renaming mul_le_mul→rp
open Go Go.Am Go.Proofs
namespace T
def ef(L:List Int)(k:Nat):Ob:=.var [.tree 1 (ints L),aaa k]
def yB(m:ah):List AV:=[.tree 1 (rowsOf a9 m.cls),.ref 1 4 0 m.ae.length,.tree 4 (rowsOf aV m.ax),aaa m.rules]
def akU{P:Program}{f:FuncId}{args:List AV}{aa:List Ob}{jd abp:AV->List Ob->Prop}(h:fG P f args aa jd)(ht:∀ r os,jd r os->∃ r2 eD,abp r2 eD/\ay aa.length ⟨λk=>[r].getD k .undef,os⟩ ⟨λk=>[r2].getD k .undef,eD⟩):fG P f args aa abp:=by
 refine⟨h.1,λγ jk jS=>Calls.mono (h.2 γ jk jS) ?_⟩;rintro e w'⟨res,bI,cv,aP,h0,h1,h2,h3,h4,h5⟩;obtain⟨r2,eD,hp,ht⟩:=ht res bI h0;obtain⟨Lo,a1,a2,a3,a4⟩:=ht aa γ aP rfl h4 h5;exact⟨r2,eD,cv,Lo,hp,h1,a1.trans h2,a2.trans h3,a3,a4⟩
def akV(m:ah)(o:Ob)(ho:∀ ρ,bU ρ o=o):ay 1 ⟨λk=>[AV.agg (yB m)].getD k .undef,[o,.arr 4 (rowsOf aQ m.ae)]⟩ ⟨λk=>[AV.agg (ao m)].getD k .undef,[o]⟩:=by
 have e:∀ x:AV,(λk=>[x].getD k AV.undef)=au [(0,x)]:=λx=>by
  funext k;cases k<;>rfl
 rw[e (.agg (ao m))];refine ay.aq [0] true _ _ Kq ⟨⟨G9,.inr (by rw[ho];rfl)⟩,trivial⟩ Kq (λi hi=>by
  obtain rfl:i=0:=G3;rfl) ⟨?_,trivial⟩
 refine(aI.agg _ _ rfl (eY.spec (R:=aI _ _ _ _) (cs:=ao m) (ds:=yB m) ⟨.pure rfl,aI.cp rfl (fQ _) (by rw[bX]) (iD Kq) (jX _),.pure rfl,.pure rfl,trivial⟩).2)
def abq (L:List Int) (k:Nat) (qH options:Nat) (hk:k<=L.length) (hL:L.length<1000000) (hc:qH<=24) (ho:options<=24) (ho1:1<=options) :
    fG Tryz.prog 18 [.ptr 0 0 0,aaa qH,aaa options] [ef L k] (λr os=>∃ m k',MM m qH options/\k'<=L.length/\r=.agg (yB m)/\os=[ef L k',.arr 4 (rowsOf aQ m.ae)]):=by
  unfold ef
  refine fG.aC 199 1 [.cell 6 37] Tryz.func18 ?_
  ((refine Vb X0 ?_)<;>try with_reducible intro K hK)
  refine ez [0] (iw L k 4 (by unfold dS;omega) hk hL) Kq ⟨rfl,trivial⟩ ⟨.eq rfl,.pure rfl,trivial⟩ ?_
  have hv:=kd (L:=L) (k:=k) (n:=4) G3
  have bW:=dN hk
  generalize da L k 4=v at *
  generalize bR L k=k2 at *
  clear hk
  ((try revert hK K);(refine Vb X0 ?_)<;>try with_reducible intro K hK)
  refine ez [0] (iw L k2 (qH+1) (by unfold dS;omega) bW hL) Kq ⟨rfl,trivial⟩ ⟨.eq rfl,.pure rfl,trivial⟩ ?_
  have BA:=kd (L:=L) (k:=k2) (n:=qH+1) G3
  have kR:=dN bW
  generalize da L k2 (qH+1)=n at *
  generalize bR L k2=k3 at *
  clear bW
  obtain ⟨c0,rfl⟩ :∃c0:Nat,n=c0:=⟨n.toNat,G3⟩
  generalize hR:1+v=R
  have Cr:1<=R/\R<=4:=G3
  ((try revert hK K);(refine Vb X0 ?_))
  refine aO (λz:Nat×Nat×List (List bV)=>(⟨au [(0,.ptr 0 0 0),(2,aaa options),(6,.ptr 1 0 0),(7,.ptr 2 0 0),(8,aaa z.1)],dw L z.2.1 z.2.2 [] [] R⟩:St))
    (λz=>z.1+z.2.2.length<=qH/\z.2.1<=L.length/\∀ l∈z.2.2,(1<=l.length/\l.length<=options)/\T4 R l) (λz=>z.1) (c0,k3,[]) ⟨PX,kR,G9⟩ ?_ ?_
  · refine ay.trans (ay.my 2 0 1 rfl rfl Kq) ?_
    refine ay.trans (ay.my 2 1 4 rfl rfl Kq) ?_
    refine ay.trans (ay.my 2 2 4 rfl rfl Kq) ?_
    exact Xv X0
  clear BA kR
  rintro ⟨c,k,cls⟩ ⟨aM,hk,vw⟩ Ql ak ar
  dsimp only at aM hk vw ⊢
  unfold dw
  by_cases mW:0<c
  · obtain ⟨c',rfl⟩ :∃c',c=c'+1:=⟨c - 1,G3⟩
    have lr:((c'+1:Nat):Int) - 1=c':=G3
    ((repeat' (first|refine Va X0 ?_|(refine Xi ?_ ?_<;>try intro ht)|exact Xx|fail))<;>try with_reducible intro K hK)
    refine ez [0] (iw L k options (by unfold dS;omega) hk hL) Kq ⟨rfl,trivial⟩ ⟨.eq rfl,.pure rfl,trivial⟩ ?_
    have BA:=kd (L:=L) (k:=k) (n:=options) G3
    have bW:=dN hk
    generalize da L k options=n at *
    generalize bR L k=k2 at *
    clear hk
    obtain ⟨e0,pT⟩ :∃e0:Nat,1+n=e0:=⟨(1+n).toNat,G3⟩
    ((try revert hK K);(refine Va @pT ?_))
    refine aO (λz:Nat×Nat×List bV=>(⟨au [(0,.ptr 0 0 0),(2,aaa options),(6,.ptr 1 0 0),(7,.ptr 2 0 0),(8,aaa (c'+1:Nat)),(9,.ref 6 6 0 z.2.2.length),(10,aaa z.1)],dw L z.2.1 cls [] [] R++[.arr 6 (rowsOf cK z.2.2)]⟩:St))
      (λz=>z.1+z.2.2.length=e0/\z.2.1<=L.length/\T4 R z.2.2) (λz=>z.1) (e0,k2,[]) ⟨G9,bW,by intro o ho;simp at ho⟩ ?_ ?_
    · refine ay.trans (ay.nil 9 6 (by simp only[Kc,simprocAttr]) Kq) ?_
      unfold dw
      exact Xv X0
    clear bW
    rintro ⟨e,k,l⟩ ⟨ya,hk,hl⟩ cL a7 ba
    dsimp only at ya hk hl ⊢
    unfold dw
    simp only[dP,dZ]
    by_cases Sa:0<e
    · obtain ⟨e',rfl⟩ :∃e',e=e'+1:=⟨e - 1,G3⟩
      have pU:((e'+1:Nat):Int) - 1=e':=G3
      ((repeat' (first|refine Va X0 ?_|(refine Xi ?_ ?_<;>try intro ht)|exact Xx|fail))<;>try with_reducible intro K hK)
      refine ez [0] (iw L k 3 (by unfold dS;omega) hk hL) Kq ⟨rfl,trivial⟩ ⟨.eq rfl,.pure rfl,trivial⟩ ?_
      have eF:=kd (L:=L) (k:=k) (n:=3) G3
      have bW:=dN hk
      generalize da L k 3=n1 at *
      generalize bR L k=k2 at *
      clear hk
      ((try revert hK K);(refine Va X0 ?_)<;>try with_reducible intro K hK)
      refine ez [0] (iw L k2 2 (by unfold dS;omega) bW hL) Kq ⟨rfl,trivial⟩ ⟨.eq rfl,.pure rfl,trivial⟩ ?_
      have hk:=dN bW
      generalize da L k2 2=n2 at *
      generalize bR L k2=k at *
      clear bW
      ((try revert hK K);(refine Va X0 ?_)<;>try with_reducible intro K hK)
      refine ez [0] (iw L k 3 (by unfold dS;omega) hk hL) Kq ⟨rfl,trivial⟩ ⟨.eq rfl,.pure rfl,trivial⟩ ?_
      have bW:=dN hk
      generalize da L k 3=n3 at *
      generalize bR L k=k2 at *
      clear hk
      ((try revert hK K);(refine Va X0 ?_)<;>try with_reducible intro K hK)
      refine ez [0] (iw L k2 3 (by unfold dS;omega) bW hL) Kq ⟨rfl,trivial⟩ ⟨.eq rfl,.pure rfl,trivial⟩ ?_
      have hn4:=kd (L:=L) (k:=k2) (n:=3) G3
      have hk:=dN bW
      generalize da L k2 3=n4 at *
      generalize bR L k2=k at *
      clear bW
      ((try revert hK K);(refine Va X0 ?_))
      generalize hw1:1+n1=w1
      generalize hw4:n4 - 1=w4
      refine aO (λz:Nat×Nat×List (Int×Int)=>(⟨au [(0,.ptr 0 0 0),(2,aaa options),(6,.ptr 1 0 0),(7,.ptr 2 0 0),(8,aaa (c'+1:Nat)),(9,.ref 6 6 0 l.length),(10,aaa (e'+1:Nat)),(11,.ptr 7 0 0),(12,aaa z.1)],
          dw L z.2.1 cls [] [] R++[.arr 6 (rowsOf cK l),.var [aaa w1,aaa n2,aaa n3,aaa 1,aaa w4,.ref 8 2 0 z.2.2.length],.arr 2 (rowsOf aK z.2.2)]⟩:St))
        (λz=>(z.1:Int)<=R/\z.2.1<=L.length/\z.2.2.length<=z.1/\eH R none z.2.2=true/\∀ x∈z.2.2,x.1<z.1) (λz=>R.toNat - z.1) (0,k,[]) ⟨Kw,hk,Nat.le_refl _,rfl,G9⟩ ?_ ?_
      · refine ay.trans (ay.my 7 5 2 rfl rfl Kq) ?_
        unfold dw
        exact Xv X0
      clear hk
      rintro ⟨u,k,ch⟩ ⟨hu,hk,bY,fC,bx⟩ kX fJ eR
      dsimp only at hu hk bY fC bx ⊢
      unfold dw
      simp only[dP,dZ]
      by_cases OL:(u:Int)<R
      · ((repeat' (first|refine Va X0 ?_|(refine Xi ?_ ?_<;>try intro ht)|exact Xx|fail))<;>try with_reducible intro K hK)
        refine ez [0] (Mt L k hk hL) Kq ⟨rfl,trivial⟩ ⟨.eq rfl,trivial⟩ ?_
        obtain ⟨oW,mo,Ds⟩:=Ml L k
        have bW:=Mm hk
        generalize qE L k=cv at *
        generalize wx L k=k2 at *
        clear hk
        ((try revert hK K);(repeat' (first|refine Va X0 ?_|(refine V2 X0 ?_ ?_<;>try with_reducible intro hb)|(refine Xi ?_ ?_<;>try intro ht)|exact Xx|fail))<;>try with_reducible intro K hK)
        · refine ez [0] (AS L k2 2 (by unfold dS;omega) Kq bW hL) Kq ⟨rfl,trivial⟩ ⟨.eq rfl,.pure rfl,trivial⟩ ?_
          have hk:=dN bW
          generalize xV L k2 2=b at *
          generalize bR L k2=k at *
          clear bW
          ((try revert hK K);(repeat' (first|refine Va X0 ?_|(refine Xi ?_ ?_<;>try intro ht)|fail)))
          · refine fJ _ (u+1,k,ch++[((u:Int),cv)]) ⟨Kw,hk,PX,TY fC (by rw[jI,decide_eq_true_eq];omega) (Ds G3) (λx hx=>bx x hx) G9,λx hx=>?_⟩ Kw ?_
            · rcases cz.1 hx with hx | hx
              · have:=bx x hx;dsimp only;omega
              · simp only[ec] at hx;subst hx;dsimp only;omega
            · unfold dw
              simp only[dP,dZ]
              rw[show rowsOf aK ch++[[AV.lit (.int .i64 u),AV.lit (.int .i64 cv)]]=rowsOf aK (ch++[((u:Int),cv)]) from lJ (enc:=aK) ch ((u:Int),cv)]
              exact Xs false [0,1,2,3,4,5,6,7,10] X0
          · exact fJ _ (u+1,k,ch) ⟨Kw,hk,Kw,fC,λx hx=>by have:=bx x hx;dsimp only;omega⟩ Kw (by unfold dw;exact Xv X0)
        · exact fJ _ (u+1,k2,ch) ⟨Kw,bW,Kw,fC,λx hx=>by have:=bx x hx;dsimp only;omega⟩ Kw (by unfold dw;exact Xv X0)
      · ((repeat' (first|refine Va X0 ?_|(refine Xi ?_ ?_<;>try intro ht)|exact Xx|fail)))
        refine eR _ _ rfl ?_
        clear fJ eR kX
        repeat (refine Xu ?_)
        refine bD (ay.kQ 8 7 5 2 rfl rfl (by rw[bX];rfl) (fQ _) (jX _)) ?_
        refine bD (σ':=⟨au [(0,.ptr 0 0 0),(2,aaa options),(6,.ptr 1 0 0),(7,.ptr 2 0 0),(8,aaa (c'+1:Nat)),(9,.ref 6 6 0 l.length),(10,aaa (e'+1:Nat)),(11,.ptr 7 0 0)],
            dw L k cls [] [] R++[.arr 6 (rowsOf cK l),.var (cK ⟨w1,n2,n3,1,w4,ch⟩),.gone]⟩) (by unfold dw;exact Xv X0) ?_
        unfold dw
        simp only[dP,dZ]
        have pU:((e'+1:Nat):Int) - 1=e':=G3
        refine Va @pU ?_
        refine a7 _ (e',k,l++[⟨w1,n2,n3,1,w4,ch⟩]) ⟨PX,hk,?_⟩ Kw ?_
        · intro o ho
          rcases cz.1 ho with ho | ho
          · exact hl o ho
          · simp only[ec] at ho;subst ho;exact⟨fC,Kw⟩
        · unfold dw
          simp only[dP,dZ]
          rw[show rowsOf cK l++[[AV.lit (.int .i64 w1),AV.lit (.int .i64 n2),AV.lit (.int .i64 n3),AV.lit (.int .i64 1),AV.lit (.int .i64 w4),AV.tree 2 (rowsOf aK ch)]]=rowsOf cK (l++[⟨w1,n2,n3,1,w4,ch⟩]) from lJ (enc:=cK) l ⟨w1,n2,n3,1,w4,ch⟩]
          exact Xs false [0,1,2,3,4,5,10] X0
    · obtain rfl:e=0:=G3
      ((repeat' (first|refine Va X0 ?_|(refine Xi ?_ ?_<;>try intro ht)|exact Xx|fail)))
      refine ba _ _ rfl ?_
      clear a7 ba cL
      repeat (refine Xu ?_)
      refine bD (σ':=⟨au [(0,.ptr 0 0 0),(2,aaa options),(6,.ptr 1 0 0),(7,.ptr 2 0 0),(8,aaa (c'+1:Nat)),(9,.tree 6 (rowsOf cK l))],dw L k cls [] [] R⟩) ?_ ?_
      · unfold dw
        exact Xs true [0,1,2,3,4,5] X0
      unfold dw
      refine Va @lr ?_
      refine ak _ (c',k,cls++[l]) ⟨PX,hk,?_⟩ Kw ?_
      · intro x hx
        rcases cz.1 hx with hx | hx
        · exact vw x hx
        · simp only[ec] at hx;subst hx;exact⟨⟨G3,G3⟩,hl⟩
      · unfold dw
        rw[show rowsOf a9 cls++[[AV.tree 6 (rowsOf cK l)]]=rowsOf a9 (cls++[l]) from lJ (enc:=a9) cls l]
        exact Xs false [0,1,2,7,4,5] X0
  obtain rfl:c=0:=G3
  ((repeat' (first|refine Va X0 ?_|(refine Xi ?_ ?_<;>try intro ht)|exact Xx|fail)))
  refine ar _ _ rfl ?_;clear ak ar Ql
  repeat (refine Xu ?_)
  clear mW
  refine bD (σ':=⟨au [(0,.ptr 0 0 0),(6,.ptr 1 0 0),(7,.ptr 2 0 0)],dw L k cls [] [] R⟩) (by unfold dw;exact Xv X0) ?_
  unfold dw
  refine Va X0 ?_
  have bY:cls.length<=24:=G3
  have yv:∀ i,(cls.getD i default).length<=24:=λi=>by
    rcases Nat.lt_or_ge i cls.length with h | h
    · have:=(vw _ (aB (d:=default) h)).1;omega
    · rw[List.getD_eq_getElem?_getD,List.getElem?_eq_none h];decide
  refine aO (λz:Nat×Nat×List Pr=>(⟨au [(0,.ptr 0 0 0),(6,.ptr 1 0 0),(7,.ptr 2 0 0),(14,aaa z.1)],dw L z.2.1 cls z.2.2 [] R⟩:St))
    (λz=>(z.1:Int)<=R/\z.2.1<=L.length/\xW cls R z.2.2 z.1 0 0) (λz=>R.toNat - z.1) (0,k,[]) ⟨Kw,hk,rfl,G9,G9⟩ (by unfold dw;exact Xv X0) ?_
  clear hk
  rintro ⟨u,k,ae⟩ ⟨hu,hk,hP⟩ Ql ak ar
  dsimp only at hu hk hP ⊢
  unfold dw
  by_cases OL:(u:Int)<R
  · ((repeat' (first|refine Va X0 ?_|(refine Xi ?_ ?_<;>try intro ht)|exact Xx|fail)))
    refine aO (λz:Nat×Nat×List Pr=>(⟨au [(0,.ptr 0 0 0),(6,.ptr 1 0 0),(7,.ptr 2 0 0),(14,aaa u),(15,aaa z.1)],dw L z.2.1 cls z.2.2 [] R⟩:St))
      (λz=>z.1<=cls.length/\z.2.1<=L.length/\xW cls R z.2.2 u z.1 0) (λz=>cls.length - z.1) (0,k,ae) ⟨Kw,hk,hP⟩ (by unfold dw;exact Xv X0) ?_
    clear hk hP
    rintro ⟨i,k,ae⟩ ⟨hi,hk,hP⟩ cL a7 ba
    dsimp only at hi hk hP ⊢
    unfold dw
    by_cases hi':i<cls.length
    · ((repeat' (first|refine Va X0 ?_|(refine Xi ?_ ?_<;>try intro ht)|exact Xx|fail)))
      refine aO (λz:Nat×Nat×List Pr=>(⟨au [(0,.ptr 0 0 0),(6,.ptr 1 0 0),(7,.ptr 2 0 0),(14,aaa u),(15,aaa i),(16,aaa z.1)],dw L z.2.1 cls z.2.2 [] R⟩:St))
        (λz=>i<z.1/\z.1<=cls.length/\z.2.1<=L.length/\xW cls R z.2.2 u i z.1) (λz=>cls.length - z.1) (i+1,k,ae) ⟨Kw,Kw,hk,hP.mono G3 G3⟩ (by unfold dw;exact Xv X0) ?_
      clear hk hP
      rintro ⟨j,k,ae⟩ ⟨yx,hj,hk,hP⟩ kX fJ eR
      dsimp only at yx hj hk hP ⊢
      unfold dw
      by_cases dx:j<cls.length
      · ((repeat' (first|refine Va X0 ?_|(refine Xi ?_ ?_<;>try intro ht)|exact Xx|fail))<;>try with_reducible intro K hK)
        refine ez [0] (AS L k 3 (by unfold dS;omega) Kq hk hL) Kq ⟨rfl,trivial⟩ ⟨.eq rfl,.pure rfl,trivial⟩ ?_
        have bW:=dN hk
        generalize xV L k 3=b at *
        generalize bR L k=k2 at *
        clear hk
        have g1:=yv i
        have g2:=yv j
        have uW:=(vw _ (aB (d:=default) hi')).1
        have tJ:=(vw _ (aB (d:=default) dx)).1
        have hmul:((cls.getD i default).length:Int) * (cls.getD j default).length=((cls.getD i default).length * (cls.getD j default).length:Nat):=G9
        have aon:(cls.getD i default).length * (cls.getD j default).length<=24 * 24:=Nat.mul_le_mul g1 g2
        generalize RQ:(cls.getD i default).length * (cls.getD j default).length=nn at *
        ((try revert hK K);(repeat' (first|refine Va @hmul ?_|(refine Xi ?_ ?_<;>try intro ht)|fail)))
        rotate_left
        · exact fJ _ (j+1,k2,ae) ⟨Kw,Kw,bW,hP.mono G3 G3⟩ Kw (by unfold dw;exact Xv X0)
        refine aO (λz:Nat×Nat×List Int=>(⟨au [(0,.ptr 0 0 0),(6,.ptr 1 0 0),(7,.ptr 2 0 0),(14,aaa u),(15,aaa i),(16,aaa j),(17,.ptr 6 0 0),(18,aaa z.1)],
            dw L z.2.1 cls ae [] R++[.var [aaa i,aaa j,aaa u,.ref 7 1 0 z.2.2.length],.arr 1 (ints z.2.2)]⟩:St))
          (λz=>z.1+z.2.2.length=nn/\z.2.1<=L.length/\∀ x∈z.2.2,0<=x/\(0<x->jH x=true)) (λz=>z.1) (nn,k2,[]) ⟨G9,bW,G9⟩ ?_ ?_
        · refine ay.trans (ay.my 6 3 1 rfl rfl Kq) ?_
          unfold dw
          exact Xv X0
        clear bW
        rintro ⟨w,k,aD⟩ ⟨hw,hk,JE⟩ CX Bd oD
        dsimp only at hw hk JE ⊢
        unfold dw
        simp only[dP,dZ]
        by_cases Ht:0<w
        · obtain ⟨w',rfl⟩ :∃w',w=w'+1:=⟨w - 1,G3⟩
          have hw1:((w'+1:Nat):Int) - 1=w':=G3
          ((repeat' (first|refine Va X0 ?_|(refine Xi ?_ ?_<;>try intro ht)|exact Xx|fail)))
          refine jb [] (.take 2 (.both 0 (.both 1 (.take 3 (.take 4 (.take 5 (.take 6 (.take 7 .nil))))) 3 (.take 1 (.take 4 (.take 5 (.take 6 (.take 7 .nil)))))) 3 (.take 0 (.take 1 (.take 4 (.take 5 (.take 6 (.take 7 .nil)))))))) rfl Kq (by decide +kernel) ?_
          simp (disch:=omega) only[Ac,↓Pc,simprocAttr,xG,uP,uQ,du,e7]
          refine⟨⟨?_,?_⟩,?_⟩
          all_goals refine ez [0] (Mt L k hk hL) Kq ⟨rfl,trivial⟩ ⟨.eq rfl,trivial⟩ ?_
          all_goals obtain ⟨oW,mo,Ds⟩:=Ml L k
          all_goals have bW:=Mm hk
          all_goals generalize qE L k=cv at *
          all_goals generalize wx L k=k2 at *
          all_goals simp (disch:=omega) only[Ac,↓Pc,simprocAttr,xG,uP,uQ,du,e7]
          all_goals refine⟨G3,?_⟩
          all_goals repeat (refine Xu ?_)
          all_goals ((repeat' (first|refine Va @hw1 ?_|fail)))
          all_goals refine Bd _ (w',k2,aD++[cv]) ⟨PX,bW,λx hx=>?_⟩ Kw ?_
          all_goals first
            | (rcases cz.1 hx with hx | hx
               · exact JE x hx
               · simp only[ec] at hx;subst hx;exact⟨oW,Ds⟩)
            | (unfold dw;simp only[dP,dZ];exact Xs false [0,1,2,3,4,5,6,9] X0)
        · obtain rfl:w=0:=G3
          ((repeat' (first|refine Va X0 ?_|(refine Xi ?_ ?_<;>try intro ht)|exact Xx|fail)))
          refine oD _ _ rfl ?_
          clear Bd oD CX
          repeat (refine Xu ?_)
          refine bD (ay.kQ 7 6 3 1 rfl rfl (by rw[lh];rfl) (ny _) (oa _)) ?_
          refine bD (σ':=⟨au [(0,.ptr 0 0 0),(6,.ptr 1 0 0),(7,.ptr 2 0 0),(14,aaa u),(15,aaa i),(16,aaa j),(17,.ptr 6 0 0)],
              dw L k cls ae [] R++[.var (aQ ⟨i,j,u,aD⟩),.gone]⟩) (by unfold dw;exact Xv X0) ?_
          unfold dw
          simp only[dP,dZ]
          have dh:=hP.len
          refine Va X0 ?_
          refine fJ _ (j+1,k,ae++[⟨i,j,u,aD⟩]) ⟨Kw,Kw,hk,hP.app (afM OL yx dx (by rw[RQ];omega) JE)⟩ Kw ?_
          unfold dw
          rw[show rowsOf aQ ae++[[AV.lit (.int .i64 i),AV.lit (.int .i64 j),AV.lit (.int .i64 u),AV.tree 1 (ints aD)]]=rowsOf aQ (ae++[⟨i,j,u,aD⟩]) from lJ (enc:=aQ) ae ⟨i,j,u,aD⟩]
          exact Xs false [0,1,2,3,9,5] X0
      · ((repeat' (first|refine Va X0 ?_|(refine Xi ?_ ?_<;>try intro ht)|exact Xx|fail)))
        refine eR _ _ rfl ?_
        clear fJ eR kX
        repeat (refine Xu ?_)
        refine Va X0 ?_
        exact a7 _ (i+1,k,ae) ⟨Kw,hk,hP.mono G3 G3⟩ Kw (by unfold dw;exact Xv X0)
    · ((repeat' (first|refine Va X0 ?_|(refine Xi ?_ ?_<;>try intro ht)|exact Xx|fail)))
      refine ba _ _ rfl ?_
      clear a7 ba cL
      repeat (refine Xu ?_)
      refine Va X0 ?_
      exact ak _ (u+1,k,ae) ⟨Kw,hk,hP.mono G3 G3⟩ Kw (by unfold dw;exact Xv X0)
  have akW:=hP.ok
  have Dg:ae.length<=4000:=by have:=hP.len;omega
  ((repeat' (first|refine Va X0 ?_|(refine Xi ?_ ?_<;>try intro ht)|exact Xx|fail)))
  refine ar _ _ rfl ?_;clear ak ar Ql
  repeat (refine Xu ?_)
  refine bD (σ':=⟨au [(0,.ptr 0 0 0),(6,.ptr 1 0 0),(7,.ptr 2 0 0)],dw L k cls ae [] R⟩) (by unfold dw;exact Xv X0) ?_
  clear OL hu hP
  unfold dw
  ((refine Va X0 ?_)<;>try with_reducible intro K hK)
  refine ez [0] (iw L k 3 (by unfold dS;omega) hk hL) Kq ⟨rfl,trivial⟩ ⟨.eq rfl,.pure rfl,trivial⟩ ?_
  have BA:=kd (L:=L) (k:=k) (n:=3) G3
  have bW:=dN hk
  generalize da L k 3=n at *
  generalize bR L k=k2 at *
  clear hk
  obtain ⟨c1,rfl⟩ :∃c1:Nat,n=c1:=⟨n.toNat,G3⟩
  ((try revert hK K);(refine Va X0 ?_))
  refine aO (λz:Nat×Nat×List Ct=>(⟨au [(0,.ptr 0 0 0),(6,.ptr 1 0 0),(7,.ptr 2 0 0),(19,aaa z.1)],dw L z.2.1 cls ae z.2.2 R⟩:St))
    (λz=>z.1+z.2.2.length<=2/\z.2.1<=L.length/\∀ x∈z.2.2,iW ⟨cls,[],[],R⟩ x=true) (λz=>z.1) (c1,k2,[]) ⟨PX,bW,G9⟩ (by unfold dw;exact Xv X0) ?_
  clear bW
  rintro ⟨c,k,ax⟩ ⟨aM,hk,ON⟩ Ql ak ar
  dsimp only at aM hk ON ⊢
  unfold dw
  by_cases mW:0<c
  · obtain ⟨c',rfl⟩ :∃c',c=c'+1:=⟨c - 1,G3⟩
    have lr:((c'+1:Nat):Int) - 1=c':=G3
    ((repeat' (first|refine Va X0 ?_|(refine Xi ?_ ?_<;>try intro ht)|exact Xx|fail))<;>try with_reducible intro K hK)
    refine ez [0] (iw L k R (by unfold dS;omega) hk hL) Kq ⟨rfl,trivial⟩ ⟨.eq rfl,.pure rfl,trivial⟩ ?_
    have eF:=kd (L:=L) (k:=k) (n:=R) G3
    have bW:=dN hk
    generalize da L k R=n1 at *
    generalize bR L k=k2 at *
    clear hk
    ((try revert hK K);(refine Va X0 ?_)<;>try with_reducible intro K hK)
    refine ez [0] (iw L k2 4 (by unfold dS;omega) bW hL) Kq ⟨rfl,trivial⟩ ⟨.eq rfl,.pure rfl,trivial⟩ ?_
    have nE:=kd (L:=L) (k:=k2) (n:=4) G3
    have hk:=dN bW
    generalize da L k2 4=n2 at *
    generalize bR L k2=k at *
    clear bW
    ((try revert hK K);(refine Va X0 ?_)<;>try with_reducible intro K hK)
    refine ez [0] (Mt L k hk hL) Kq ⟨rfl,trivial⟩ ⟨.eq rfl,trivial⟩ ?_
    obtain ⟨oW,mo,Ds⟩:=Ml L k
    have bW:=Mm hk
    generalize qE L k=cv at *
    generalize wx L k=k2 at *
    clear hk
    have Ok:jH (max 1 cv)=true:=by
      by_cases h0:0<cv
      · rw[show max 1 cv=cv by omega];exact Ds h0
      · rw[show max 1 cv=1 by omega];decide
    generalize bL:max 1 cv=b8 at *
    ((try revert hK K);(refine Va @bL ?_))
    refine aO (λz:Nat×Nat×List Ld=>(⟨au [(0,.ptr 0 0 0),(6,.ptr 1 0 0),(7,.ptr 2 0 0),(19,aaa (c'+1:Nat)),(20,.ptr 6 0 0),(21,aaa z.1)],
        dw L z.2.1 cls ae ax R++[.var [aaa n1,.ref 7 3 0 z.2.2.length,aaa n2,aaa b8],.arr 3 (rowsOf iH z.2.2)]⟩:St))
      (λz=>z.1<=cls.length/\z.2.1<=L.length/\zg cls R z.2.2 z.1 0) (λz=>cls.length - z.1) (0,k2,[]) ⟨aF _,bW,rfl,G9,G9⟩ ?_ ?_
    · refine ay.trans (ay.my 6 1 3 rfl rfl Kq) ?_
      unfold dw
      exact Xv X0
    clear bW
    rintro ⟨i,k,mB⟩ ⟨hi,hk,hI⟩ cL a7 ba
    dsimp only at hi hk hI ⊢
    unfold dw
    simp only[dP,dZ]
    by_cases hi':i<cls.length
    · have uW:=yv i
      generalize dI:cls.getD i default=li at *
      ((repeat' (first|refine Va @dI ?_|(refine Xi ?_ ?_<;>try intro ht)|exact Xx|fail)))
      refine aO (λz:Nat×Nat×List Ld=>(⟨au [(0,.ptr 0 0 0),(6,.ptr 1 0 0),(7,.ptr 2 0 0),(19,aaa (c'+1:Nat)),(20,.ptr 6 0 0),(21,aaa i),(22,aaa z.1)],
          dw L z.2.1 cls ae ax R++[.var [aaa n1,.ref 7 3 0 z.2.2.length,aaa n2,aaa b8],.arr 3 (rowsOf iH z.2.2)]⟩:St))
        (λz=>z.1<=li.length/\z.2.1<=L.length/\zg cls R z.2.2 i z.1) (λz=>li.length - z.1) (0,k,mB) ⟨aF _,hk,hI⟩ (by unfold dw;exact Xv (X2 @dP.{0} @dZ.{0})) ?_
      clear hk hI
      rintro ⟨j,k,mB⟩ ⟨hj,hk,hI⟩ kX fJ eR
      dsimp only at hj hk hI ⊢
      unfold dw
      simp only[dP,dZ]
      have aoo:=hI.len
      by_cases dx:j<li.length
      · ((repeat' (first|refine Va @dI ?_|(refine Xi ?_ ?_<;>try intro ht)|exact Xx|fail))<;>try with_reducible intro K hK)
        refine ez [0] (AS L k 2 (by unfold dS;omega) Kq hk hL) Kq ⟨rfl,trivial⟩ ⟨.eq rfl,.pure rfl,trivial⟩ ?_
        have bW:=dN hk
        generalize xV L k 2=b at *
        generalize bR L k=k2 at *
        clear hk
        ((try revert hK K);(repeat' (first|refine Va @dI ?_|(refine Xi ?_ ?_<;>try intro ht)|fail)))
        · refine jb [] (.take 2 (.take 3 (.take 4 (.both 0 (.both 1 (.take 5 (.take 6 (.take 7 (.take 8 (.take 9 (.take 10 (.take 11 .nil))))))) 5 (.take 1 (.take 6 (.take 7 (.take 8 (.take 9 (.take 10 (.take 11 .nil)))))))) 5 (.take 0 (.take 1 (.take 6 (.take 7 (.take 8 (.take 9 (.take 10 (.take 11 .nil)))))))))))) rfl Kq (by decide +kernel) ?_
          simp (disch:=omega) only[Ac,↓Pc,simprocAttr,xG,uP,uQ,du,e7]
          refine⟨⟨?_,?_⟩,?_⟩
          all_goals refine ez [0] (iw L k2 3 (by unfold dS;omega) bW hL) Kq ⟨rfl,trivial⟩ ⟨.eq rfl,.pure rfl,trivial⟩ ?_
          all_goals have hn3:=kd (L:=L) (k:=k2) (n:=3) G3
          all_goals have hk:=dN bW
          all_goals generalize da L k2 3=n3 at *
          all_goals generalize bR L k2=k at *
          all_goals clear bW
          all_goals simp (disch:=omega) only[Ac,↓Pc,simprocAttr,xG,uP,uQ,du,e7]
          all_goals refine⟨⟨G3,G3⟩,G3,?_⟩
          all_goals repeat (refine Xu ?_)
          all_goals ((repeat' (first|refine Va X0 ?_|fail)))
          all_goals refine fJ _ (j+1,k,mB++[⟨i,j,1+n3⟩]) ⟨Kw,hk,hI.app hi' (by rw[dI];exact dx) ⟨G3,G3⟩⟩ Kw ?_
          all_goals unfold dw
          all_goals simp only[dP,dZ]
          all_goals rw[show rowsOf iH mB++[[AV.lit (.int .i64 i),AV.lit (.int .i64 j),AV.lit (.int .i64 (1+n3))]]=rowsOf iH (mB++[⟨i,j,1+n3⟩]) from lJ (enc:=iH) mB ⟨i,j,1+n3⟩]
          all_goals exact Xs false [0,1,2,3,4,5,6,9] X0
        · exact fJ _ (j+1,k2,mB) ⟨Kw,bW,hI.mono G3 G3⟩ Kw (by unfold dw;exact Xv (X2 @dP.{0} @dZ.{0}))
      · ((repeat' (first|refine Va @dI ?_|(refine Xi ?_ ?_<;>try intro ht)|exact Xx|fail)))
        refine eR _ _ rfl ?_
        clear fJ eR kX
        repeat (refine Xu ?_)
        refine Va X0 ?_
        exact a7 _ (i+1,k,mB) ⟨Kw,hk,hI.mono G3 G3⟩ Kw (by unfold dw;exact Xv (X2 @dP.{0} @dZ.{0}))
    · ((repeat' (first|refine Va X0 ?_|(refine Xi ?_ ?_<;>try intro ht)|exact Xx|fail)))
      refine ba _ _ rfl ?_
      clear a7 ba cL
      repeat (refine Xu ?_)
      refine bD (ay.kQ 7 6 1 3 rfl rfl (by rw[bX];rfl) (fQ _) (jX _)) ?_
      refine bD (σ':=⟨au [(0,.ptr 0 0 0),(6,.ptr 1 0 0),(7,.ptr 2 0 0),(19,aaa (c'+1:Nat)),(20,.ptr 6 0 0)],
          dw L k cls ae ax R++[.var (aV ⟨n1,mB,n2,b8⟩),.gone]⟩) (by unfold dw;exact Xv X0) ?_
      unfold dw
      simp only[dP,dZ]
      refine Va @lr ?_
      refine ak _ (c',k,ax++[⟨n1,mB,n2,b8⟩]) ⟨PX,hk,?_⟩ Kw ?_
      · intro x hx
        rcases cz.1 hx with hx | hx
        · exact ON x hx
        · simp only[ec] at hx
          subst hx
          unfold iW jI
          simp only[Bool.and_eq_true,decide_eq_true_eq]
          exact⟨⟨⟨G3,G3⟩,Ok⟩,hI.ok⟩
      · unfold dw
        rw[show rowsOf aV ax++[[AV.lit (.int .i64 n1),AV.tree 3 (rowsOf iH mB),AV.lit (.int .i64 n2),AV.lit (.int .i64 b8)]]=rowsOf aV (ax++[⟨n1,mB,n2,b8⟩]) from lJ (enc:=aV) ax ⟨n1,mB,n2,b8⟩]
        exact Xs false [0,1,2,3,4,9] X0
  obtain rfl:c=0:=G3
  ((repeat' (first|refine Va X0 ?_|(refine Xi ?_ ?_<;>try intro ht)|exact Xx|fail)))
  refine ar _ _ rfl ?_;clear ak ar Ql
  repeat (refine Xu ?_)
  refine Vb X0 ?_
  have hMM:MM ⟨cls,ae,ax,R⟩ qH options:=by
    refine⟨⟨Kw,λl hl=>by have:=(vw l hl).1;omega,Dg,Kw,Kw,λl hl o ho=>((vw l hl).2 o ho).1,?_,λx hx=>?_⟩,Kw,λl hl=>(vw l hl).1,Cr,Kw,λl hl o ho=>((vw l hl).2 o ho).2⟩
    · exact (T2 _ _).trans akW
    · exact (afK _).trans (ON x hx)
  unfold gR
  simp only[eQ,eG]
  simp (disch:=omega) only[Ac,↓Pc,simprocAttr]
  refine⟨_,_,⟨⟨cls,ae,ax,R⟩,k,hMM,hk,rfl,rfl⟩,?_⟩
  refine dr [0,4] true Kq ⟨⟨G9,.inr rfl⟩,⟨G9,.inr (by rw[rM];rfl)⟩,trivial⟩ Kq Kq (aI.agg _ _ rfl (eY.spec (R:=aI _ _ _ _) (cs:=yB ⟨cls,ae,ax,R⟩) (ds:=[.ref 3 1 0 cls.length,.ref 4 4 0 ae.length,.ref 5 4 0 ax.length,aaa R]) ⟨?_,.eq rfl,?_,.pure rfl,trivial⟩).2)
  · first|exact .pure rfl|exact .eq rfl|exact .fz rfl (by simp only[Bc,Rc])
  · first|exact .pure rfl|exact .eq rfl|exact .fz rfl (by simp only[Bc,Rc])
def akY(L:List Int)(k:Nat)(qH options:Nat)(hk:k<=L.length)(hL:L.length<1000000)(hc:qH<=24)(ho:options<=24)(ho1:1<=options):
  fG Tryz.prog 18 [.ptr 0 0 0,aaa qH,aaa options] [ef L k] (λr os=>∃ m k',MM m qH options/\k'<=L.length/\r=.agg (ao m)/\os=[ef L k']) :=
 akU (abq L k qH options hk hL hc ho ho1) λr os h=>by
  obtain⟨m,k',h1,h2,rfl,rfl⟩:=h;exact⟨_,_,⟨m,k',h1,h2,rfl,rfl⟩,akV m _ (λ_=>rfl)⟩
def p9:List (List bV)->Int
 |[]=>1
 |l::r=>l.length*p9 r
def Gt:∀ (cls:List (List bV)),(∀ l∈cls,1<=l.length)->1<=p9 cls
 |[],_=>Int.le_refl _
 |l::r,h=>by
  have h1:=h l G9;have h2:=Gt r λx hx=>h x (by simp[hx]);rw[p9];have:(1:Int)*1<=l.length*p9 r:=rp G3 h2 G3 G3;omega
def akZ(m:ah)(hm:VM m)(JT:∀ l∈m.cls,1<=l.length)(hb:p9 m.cls<=9999):an Tryz.prog 38 [.agg (ao m)] [] (aaa (p9 m.cls)) []:=by
 have nL:=hm.cls;have ak0:=Gt m.cls JT;generalize aj:p9 m.cls=res at *;refine an.aC 26 0 [.tmp 2] Tryz.func38 ?_;refine Vb X0 ?_;refine aO (λz:Nat×Int=>(⟨au [(1,.ptr 0 0 0),(3,aaa z.2),(4,aaa z.1)],[.var (ao m)]⟩:St)) (λz=>z.1<=m.cls.length/\1<=z.2/\z.2*p9 (m.cls.drop z.1)=res) (λz=>m.cls.length-z.1) (0,1) ⟨aF _,Kq,by rw[List.drop_zero,aj];exact Int.one_mul _⟩ (Xv X0) ?_;rintro⟨i,n⟩⟨hi,eF,hr⟩Ql ak ar;dsimp only at hi eF hr ⊢;have On:=Gt (m.cls.drop i) λx hx=>JT x (vT hx);have aoq:n<=res:=by
  rw[<- hr];have:n*1<=n*p9 (m.cls.drop i):=Int.mul_le_mul_of_nonneg_left On G3;omega
 by_cases hi':i<m.cls.length
 ·have sh:=hm.opt _ (aB (l:=m.cls) (i:=i) (d:=default) hi');have Bv:=JT _ (aB (l:=m.cls) (i:=i) (d:=default) hi');rw[cN m.cls i default hi',p9,<- Int.mul_assoc]at hr;have aaL:=Gt (m.cls.drop (i+1)) λx hx=>JT x (vT hx);generalize aM:m.cls.getD i default=c at *;have rX:n*1<=n*(c.length:Int):=Int.mul_le_mul_of_nonneg_left G3 G3;have rW:n*(c.length:Int)<=10000*24:=rp G3 G3 G3 G3;generalize IM:n*(c.length:Int)=nc at *;((repeat'(first|refine Va (X3 @aM @a9.eq_1 @IM) ?_|(refine V2 (X3 @aM @a9.eq_1 @IM) ?_ ?_<;>try with_reducible intro hb)|(refine Xi ?_ ?_<;>try intro ht)|exact Xx|fail)))
  exact ak _ (i+1,nc) ⟨Kw,Kw,hr⟩ Kw (Xv X0)
 ·rw[cM G3,p9,Int.mul_one]at hr;((repeat'(first|refine Va X0 ?_|(refine V2 X0 ?_ ?_<;>try with_reducible intro hb)|(refine Xi ?_ ?_<;>try intro ht)|exact Xx|fail)))
  all_goals
   refine ar _ _ rfl ?_;clear ak ar Ql;repeat(refine Xu ?_)
   refine Vb X0 ?_;exact aE rfl (by rw[<- hr,Int.min_eq_left G3])
def abu{w:Nat}:∀ (cls:List (List bV)) (k:Nat),1<=w->cls.length<=k->(∀ l∈cls,1<=l.length/\l.length<=w)->p9 cls<=(w:Int)^k
 |[],k,hw,_,_=>by
  rw[p9];have:(0:Int)<(w:Int)^k:=Int.pow_pos G3;omega
 |l::r,0,_,hk,_=>by simp at hk
 |l::r,k+1,hw,hk,h=>by
  have h1:=h l G9;have h2:=abu r k hw (by simpa using hk) λx hx=>h x (by simp[hx]);have h3:=Gt r λx hx=>(h x (by simp[hx])).1;rw[p9,Int.pow_succ,Int.mul_comm ((w:Int)^k)];exact rp G3 h2 G3 G3
def ak1(m:ah)(rX:m.cls.length<=25)(rW:∀ l∈m.cls,l.length<=25)(L:List Int)(k:Nat)(b:Bool)(hk:k<=L.length)(hL:L.length<1000000):
  an Tryz.prog 10 [.ptr 0 0 0,.agg (ao m),.lit (.bool b)] [ef L k] (.tree 1 (ints (tV L b m.cls k []).1)) [ef L (tV L b m.cls k []).2]:=by
 unfold ef;generalize aj:tV L b m.cls k []=res;refine an.aC 39 1 [.tmp 6] Tryz.func10 ?_;((try revert hK K);(repeat'(first|refine Vb X0 ?_|(refine V2 X0 ?_ ?_<;>try with_reducible intro hb)|(refine Xi ?_ ?_<;>try intro ht)|refine VD ?_ ?_|exact Xx|fail))<;>try with_reducible intro K hK)
 refine aO (λz:Nat×Nat×List Int=>(⟨au [(0,.ptr 0 0 0),(2,.lit (.bool b)),(4,.ptr 1 0 0),(7,.ref 2 1 0 z.2.2.length),(8,aaa z.1)],[.var [.tree 1 (ints L),aaa z.2.1],.var (ao m),.arr 1 (ints z.2.2)]⟩:St))
  (λz=>z.1<=m.cls.length/\z.2.1<=L.length/\z.2.2.length=z.1/\tV L b (m.cls.drop z.1) z.2.1 z.2.2=res) (λz=>m.cls.length-z.1) (0,k,[]) ⟨aF _,hk,rfl,aj⟩ ?_ ?_
 ·refine ay.trans (ay.nil 7 1 (by simp only[Kc,simprocAttr]) Kq) ?_;exact Xv X0
 clear hk;rintro⟨i,k,plan⟩⟨hi,hk,dh,hr⟩Ql ak ar;dsimp only at hi hk dh hr ⊢;by_cases hi':i<m.cls.length
 ·have sh:=rW _ (aB (d:=(default:List bV)) hi');have hd:=cN m.cls i default hi';generalize dI:m.cls.getD i default=l at *;rw[hd,tV]at hr;have BA:=kd (L:=L) (k:=k) (n:=l.length+1) G3;have bW:=dN hk;((try revert hK K);(repeat'(first|refine Va @dI ?_|(refine V2 @dI ?_ ?_<;>try with_reducible intro hb)|(refine Xi ?_ ?_<;>try intro ht)|refine VD ?_ ?_|exact Xx|fail))<;>try with_reducible intro K hK)
  ·rw[if_pos ht]at hr;refine ez [0] (iw L k l.length (by unfold dS;omega) hk hL) Kq ⟨rfl,trivial⟩ ⟨.eq rfl,.pure rfl,trivial⟩ ?_;generalize da L k l.length=n at *;generalize bR L k=k2 at *;((try revert hK K);(repeat'(first|refine Va @dI ?_|(refine V2 @dI ?_ ?_<;>try with_reducible intro hb)|(refine Xi ?_ ?_<;>try intro ht)|refine VD ?_ ?_|exact Xx|fail))<;>try with_reducible intro K hK)
   refine ak _ (i+1,k2,plan++[n]) ⟨Kw,bW,PX,hr⟩ Kw ?_;exact Xs false [0,1,4] X0
  ·rw[if_neg (by simp[ht])]at hr;refine ez [0] (iw L k (l.length+1) (by unfold dS;omega) hk hL) Kq ⟨rfl,trivial⟩ ⟨.eq rfl,.pure rfl,trivial⟩ ?_;generalize da L k (l.length+1)=n at *;generalize bR L k=k2 at *;((try revert hK K);(repeat'(first|refine Va @dI ?_|(refine V2 @dI ?_ ?_<;>try with_reducible intro hb)|(refine Xi ?_ ?_<;>try intro ht)|refine VD ?_ ?_|exact Xx|fail))<;>try with_reducible intro K hK)
   refine ak _ (i+1,k2,plan++[n-1]) ⟨Kw,bW,PX,hr⟩ Kw ?_;exact Xs false [0,1,4] X0
 ·((try revert hK K);(repeat'(first|refine Va X0 ?_|(refine V2 X0 ?_ ?_<;>try with_reducible intro hb)|(refine Xi ?_ ?_<;>try intro ht)|refine VD ?_ ?_|exact Xx|fail))<;>try with_reducible intro K hK)
  rw[cM G3,tV]at hr;subst hr;refine ar _ _ rfl ?_;clear ak ar Ql;repeat(first|refine Xu ?_)
  ((try revert hK K);(repeat'(first|refine Vb X0 ?_|(refine V2 X0 ?_ ?_<;>try with_reducible intro hb)|(refine Xi ?_ ?_<;>try intro ht)|refine VD ?_ ?_|exact Xx|fail))<;>try with_reducible intro K hK)
  exact Xw true [0] X0
end T

