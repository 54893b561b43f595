import Derived.Test.YtdipcmigdbnheaaGreatX11
import Derived.Test.YtdipcmigdbnheaaGreatX09
set_option linter.unusedVariables false
set_option linter.unusedSimpArgs false
set_option linter.unnecessarySimpa false
set_option linter.unusedSectionVars false
set_option maxHeartbeats 64000000
set_option maxRecDepth 20000
open List renaming replicate→bY,drop_eq_nil_of_le→cB,cons_append→da,nil_append→dh,mem_append→cr,mem_singleton→eM
open Nat renaming zero_le→aM
open Go Go.Am Go.Proofs
open Nat (reduceEqDiff reduceAdd reduceLeDiff reduceMul)
open Int (reduceNeg reduceLE reduceToNat)
namespace T
theorem acn (m:aj) (plan:List Int) (hm:VM m) (hp:PM m plan):an Tryz.prog 123 [.agg (ar m),.tree 1 (ints plan)] [] (.bG [.lit (.int .i64 (yT m plan).1),.tree 1 (ints (yT m plan).2)]) []:=by
  have sZ:=hm.cls
  have uo:=hm.ae
  have Hy:=hm.au
  have Bl:=hm.im
  have cq:=hp.len
  unfold yT gQ
  generalize h1:mg m 0 plan (bY m.rules.toNat 0)=o1
  generalize h2:lL m plan m.ae o1=o2
  generalize h3:mh plan m.au o2=o3
  have Ap:=gR.rep Bl.1
  refine an.aD (fn:=Tryz.f123) 155 0 [.tmp 4,.tmp 5] Tryz.func123 rfl rfl rfl rfl rfl (by simp) ?_
  refine Vb X0 ?_
  refine aU (fun z:Nat × List Int=>(⟨aw [(1,.tree 1 (ints plan)),(2,.ptr 0 0 0),(6,.ptr 2 0 0),(28,.tree 1 (ints plan)),(29,.lit (.int .i64 plan.length)),(30,.lit (.int .i64 z.1))],[.var (ar m),.arr 1 (ints z.2),.var [.ref 1 1 0 m.rules.toNat]]⟩:St))
    (fun z=>z.1≤plan.length∧gR m.rules z.2∧mg m z.1 (plan.drop z.1) z.2=o1) (fun z=>plan.length - z.1) (0,bY m.rules.toNat 0) ⟨aM _,Ap,h1⟩ (Xv X0) ?_
  rintro ⟨k,out⟩ ⟨hk,aJ,hr⟩ Ql aq av
  dsimp only at hk aJ hr ⊢
  have fT:out.length=m.rules.toNat:=by have:=aJ.1;omega
  by_cases aH:k<plan.length
  · have hd:=cA plan k 0 aH
    have fC:=hp.get k aH
    generalize aR:plan.getD k 0=o at *
    rw[hd,mg] at hr
    by_cases ho:o<0
    · rw[if_pos ho] at hr
      ((repeat' (first|refine Va @aR ?_|(refine Xi ?_ ?_<;>try intro ht)|exact Xx|fail)))
      exact aq _ (k+1,out) ⟨by dsimp only;omega,aJ,hr⟩ (by dsimp only;omega) (Xv X0)
    · rw[if_neg ho] at hr
      obtain ⟨b1,b2,b3,b4⟩:=fZ.1 (fC.resolve_left (by omega))
      have hl:=aC (l:=m.cls) (i:=k) (d:=default) (by omega)
      generalize gP:m.cls.getD k default=l at *
      rw[Int.toNat_natCast,gP] at b4
      have H':=aC (l:=l) (i:=o.toNat) (d:=default) (by omega)
      have ep:=hm.kI l hl _ H'
      generalize lH:l.getD o.toNat default=op at *
      ((repeat' (first|refine Va (X3 @aR @gP @lH) ?_|(refine Xi ?_ ?_<;>try intro ht)|exact Xx|fail)))
      generalize lJ:ng op.ch out=Ia at hr
      have cE:=AS Bl.1 ep
      refine aU (fun z:Nat × List Int=>(⟨aw [(1,.tree 1 (ints plan)),(2,.ptr 0 0 0),(6,.ptr 2 0 0),(28,.tree 1 (ints plan)),(29,.lit (.int .i64 plan.length)),(30,.lit (.int .i64 k)),(45,.tree 2 (rowsOf bA op.ch)),(46,.lit (.int .i64 op.ch.length)),(47,.lit (.int .i64 z.1))],[.var (ar m),.arr 1 (ints z.2),.var [.ref 1 1 0 m.rules.toNat]]⟩:St))
        (fun z=>z.1≤op.ch.length∧gR m.rules z.2∧ng (op.ch.drop z.1) z.2=Ia) (fun z=>op.ch.length - z.1) (0,out) ⟨aM _,aJ,lJ⟩ (Xv X0) ?_
      rintro ⟨j,tk⟩ ⟨hj,mF,eE⟩ eo bP bM
      dsimp only at hj mF eE ⊢
      have TD:tk.length=m.rules.toNat:=by have:=mF.1;omega
      by_cases c9:j<op.ch.length
      · have n5:=cA op.ch j default c9
        have gp:=uj ep _ (aC (d:=default) c9)
        generalize pP:op.ch.getD j default=c at *
        rw[n5,ng] at eE
        obtain ⟨pC,rL⟩:=gp
        rw[iu,decide_eq_true_eq] at pC
        have jv:=Hn tk c.1 c.2 (by omega) (jY rL) (mF.get _)
        rw[TD] at jv
        ((repeat' (first|refine Va @pP ?_|(refine Xi ?_ ?_<;>try intro ht)|exact Xx|fail))<;>try with_reducible intro K hK)
        refine iz [2,1] jv (by decide) ⟨rfl,by rw[oD];rfl,trivial⟩ ⟨.eq rfl,.pure rfl,.pure rfl,trivial⟩ ?_
        ((try revert hK K);(refine Va X0 ?_))
        refine bP _ (j+1,ef tk c.1 c.2) ⟨by dsimp only;omega,mF.add (jY rL),eE⟩ (by dsimp only;omega) ?_
        unfold ef
        exact Xs false [0,1,2] X0
      · ((repeat' (first|refine Va X0 ?_|(refine Xi ?_ ?_<;>try intro ht)|exact Xx|fail)))
        rw[cB (by omega),ng] at eE
        subst eE
        refine bM _ _ rfl ?_
        clear bP bM eo
        repeat (refine Xu ?_)
        refine Va X0 ?_
        exact aq _ (k+1,tk) ⟨by dsimp only;omega,mF,hr⟩ (by dsimp only;omega) (Xv X0)
  · ((repeat' (first|refine Va X0 ?_|(refine Xi ?_ ?_<;>try intro ht)|exact Xx|fail)))
    rw[cB (by omega),mg] at hr
    subst hr
    refine av _ _ rfl ?_;clear aq av Ql
    repeat (refine Xu ?_)
    refine Vb X0 ?_
    refine aU (fun z:Nat × List Int=>(⟨aw [(1,.tree 1 (ints plan)),(2,.ptr 0 0 0),(6,.ptr 2 0 0),(60,.tree 4 (rowsOf bu m.ae)),(61,.lit (.int .i64 m.ae.length)),(62,.lit (.int .i64 z.1))],[.var (ar m),.arr 1 (ints z.2),.var [.ref 1 1 0 m.rules.toNat]]⟩:St))
      (fun z=>z.1≤m.ae.length∧gR m.rules z.2∧lL m plan (m.ae.drop z.1) z.2=o2) (fun z=>m.ae.length - z.1) (0,out) ⟨aM _,aJ,h2⟩ (Xv X0) ?_
    clear hk aJ fT aH h2
    rintro ⟨k,out⟩ ⟨hk,aJ,hr⟩ Ql aq av
    dsimp only at hk aJ hr ⊢
    have fT:out.length=m.rules.toNat:=by have:=aJ.1;omega
    by_cases aH:k<m.ae.length
    · have hd:=cA m.ae k default aH
      have dG:=jh hm.pr _ (aC (d:=default) aH)
      generalize aR:m.ae.getD k default=p at *
      rw[hd,lL] at hr
      obtain ⟨q1,q2,q3,q4,q5⟩:=kJ dG
      have g1:=hp.get p.fst.toNat (by omega)
      have g2:=hp.get p.snd.toNat (by omega)
      rw[Int.toNat_of_nonneg (by omega)] at g1 g2
      have ui:=yV dG (plan.getD p.fst.toNat 0) (plan.getD p.snd.toNat 0)
      unfold lk at ui hr
      generalize hx:plan.getD p.fst.toNat 0=x at *
      generalize hy:plan.getD p.snd.toNat 0=y at *
      generalize gn:m.cls.getD p.snd.toNat default=lb at *
      have vB:lb.length≤24:=by rw[← gn];exact hm.opt _ (aC (by omega))
      have AW:=hm.opt _ (aC (l:=m.cls) (i:=p.fst.toNat) (d:=default) (by omega))
      have DK:0≤x→0≤y→0≤x * lb.length∧x * lb.length≤576∧x * lb.length+y<p.az.length∧y<24:=fun h0 h0'=>by
        have a1:=(fZ.1 (g1.resolve_left (by omega)))
        have a2:=(fZ.1 (g2.resolve_left (by omega)))
        rw[gn] at a2
        have:=uh (x:=x) (y:=y) (a:=(m.cls.getD p.fst.toNat default).length) (b:=lb.length) ⟨by omega,by omega⟩ ⟨by omega,by omega⟩ (by omega) (by omega)
        rw[q5]
        omega
      generalize TE:p.az.getD (x * (lb.length:Int)+y).toNat 0=en at *
      generalize qF:x * (lb.length:Int)=xm at *
      have jv:=Hn out p.aV en (by omega) ui (aJ.get _)
      rw[fT] at jv
      ((repeat' (first|refine Va (X5 @aR @hx @hy @gn (X2 @qF @TE)) ?_|(refine V2 (X5 @aR @hx @hy @gn (X2 @qF @TE)) ?_ ?_<;>try with_reducible intro hb)|(refine Xi ?_ ?_<;>try intro ht)|exact Xx|fail))<;>try with_reducible intro K hK)
      · rw[if_pos ⟨by assumption,by omega⟩] at hr
        refine iz [2,1] jv (by decide) ⟨rfl,by rw[oD];rfl,trivial⟩ ⟨.eq rfl,.pure rfl,.pure rfl,trivial⟩ ?_
        ((try revert hK K);(refine Va X0 ?_))
        refine aq _ (k+1,ef out p.aV en) ⟨by dsimp only;omega,aJ.add ui,hr⟩ (by dsimp only;omega) ?_
        unfold ef
        exact Xs false [0,1,2] X0
      · rw[if_neg (by omega)] at hr
        exact aq _ (k+1,out) ⟨by dsimp only;omega,aJ,hr⟩ (by dsimp only;omega) (Xs false [0,1,2] X0)
      · rw[if_neg (by omega)] at hr
        exact aq _ (k+1,out) ⟨by dsimp only;omega,aJ,hr⟩ (by dsimp only;omega) (Xs false [0,1,2] X0)
    · ((repeat' (first|refine Va X0 ?_|(refine V2 X0 ?_ ?_<;>try with_reducible intro hb)|(refine Xi ?_ ?_<;>try intro ht)|exact Xx|fail)))
      rw[cB (by omega),lL] at hr
      subst hr
      refine av _ _ rfl ?_;clear aq av Ql
      repeat (refine Xu ?_)
      refine Vb X0 ?_
      refine aU (fun z:Nat × List Int=>(⟨aw [(1,.tree 1 (ints plan)),(2,.ptr 0 0 0),(6,.ptr 2 0 0),(103,.tree 4 (rowsOf aO m.au)),(104,.lit (.int .i64 m.au.length)),(105,.lit (.int .i64 z.1))],[.var (ar m),.arr 1 (ints z.2),.var [.ref 1 1 0 m.rules.toNat]]⟩:St))
        (fun z=>z.1≤m.au.length∧gR m.rules z.2∧mh plan (m.au.drop z.1) z.2=o3) (fun z=>m.au.length - z.1) (0,out) ⟨aM _,aJ,h3⟩ (Xv X0) ?_
      clear hk aJ fT aH h3
      rintro ⟨k,out⟩ ⟨hk,aJ,hr⟩ Ql aq av
      dsimp only at hk aJ hr ⊢
      have fT:out.length=m.rules.toNat:=by have:=aJ.1;omega
      by_cases aH:k<m.au.length
      · have hd:=cA m.au k default aH
        have rK:=hm.ct _ (aC (d:=default) aH)
        generalize aR:m.au.getD k default=c at *
        rw[hd,mh] at hr
        obtain ⟨q1,q2,q3,q4⟩:=lj rK
        have hlen:=yL hm q4
        have ack:=Hp (m:=m) (plan:=plan) (fun x hx=>(nZ q4 x hx).2) 0
        have Bm:=yU (most:=c.most) (sum:=iU plan c.aS 0) (jY q3)
        have Es:=aaK c (iU plan c.aS 0) (by omega) (by omega) (by omega) (jY q3)
        generalize Ib:iU plan c.aS 0=sum at *
        generalize hev:jk c.most c.bL sum=Bn at *
        have jv:=Hn out c.aV Bn (by omega) Bm (aJ.get _)
        rw[fT] at jv
        ((repeat' (first|refine Va @aR ?_|(refine Xi ?_ ?_<;>try intro ht)|exact Xx|fail)))
        refine aU (fun z:Nat × Int=>(⟨aw [(1,.tree 1 (ints plan)),(2,.ptr 0 0 0),(6,.ptr 2 0 0),(103,.tree 4 (rowsOf aO m.au)),(104,.lit (.int .i64 m.au.length)),(105,.lit (.int .i64 k)),(16,.ptr 3 0 0),(17,.lit (.int .i64 z.2)),(110,.tree 3 (rowsOf g6 c.aS)),(111,.lit (.int .i64 c.aS.length)),(112,.lit (.int .i64 z.1))],[.var (ar m),.arr 1 (ints out),.var [.ref 1 1 0 m.rules.toNat],.var (aO c)]⟩:St))
          (fun z=>z.1≤c.aS.length∧0≤z.2∧z.2≤1000 * z.1∧iU plan (c.aS.drop z.1) z.2=sum) (fun z=>c.aS.length - z.1) (0,0) ⟨aM _,Int.le_refl _,by dsimp only;omega,Ib⟩ (Xv X0) ?_
        rintro ⟨j,n⟩ ⟨hj,dR,e9,eE⟩ eo bP bM
        dsimp only at hj dR e9 eE ⊢
        by_cases c9:j<c.aS.length
        · have n5:=cA c.aS j default c9
          have oe:=nZ q4 _ (aC (d:=default) c9)
          generalize pP:c.aS.getD j default=x at *
          rw[n5,iU] at eE
          obtain ⟨b1,b2,b3,b4⟩:=fZ.1 oe.1
          have sX:=oe.2
          generalize jZ:plan.getD x.cls.toNat 0=px at *
          ((repeat' (first|refine Va (X2 @pP @jZ) ?_|(refine Xi ?_ ?_<;>try intro ht)|exact Xx|fail)))
          · rw[if_pos (by assumption)] at eE
            exact bP _ (j+1,n+x.wt) ⟨by dsimp only;omega,by dsimp only;omega,by dsimp only;omega,eE⟩ (by dsimp only;omega) (Xs false [0,1,2,3] X0)
          · rw[if_neg (by assumption)] at eE
            exact bP _ (j+1,n) ⟨by dsimp only;omega,by dsimp only;omega,by dsimp only;omega,eE⟩ (by dsimp only;omega) (Xs false [0,1,2,3] X0)
        · ((repeat' (first|refine Va X0 ?_|(refine Xi ?_ ?_<;>try intro ht)|exact Xx|fail)))
          rw[cB (by omega),iU] at eE
          subst eE
          refine bM _ _ rfl ?_
          clear bP bM eo
          repeat (refine Xu ?_)
          ((skip))
          (try (refine yz [5] rfl (by decide) (by decide +kernel) ?_);intro K hK;simp (disch:=omega) only[Ac,↓Pc,simprocAttr])
          ((try revert hK K);(refine Vc X0 Es ?_)<;>try with_reducible intro K hK)
          refine iz [2,1] jv (by decide) ⟨rfl,by rw[oD];rfl,trivial⟩ ⟨.eq rfl,.pure rfl,.pure rfl,trivial⟩ ?_
          ((try revert hK K);(refine Va X0 ?_))
          refine aq _ (k+1,ef out c.aV Bn) ⟨by dsimp only;omega,aJ.add Bm,hr⟩ (by dsimp only;omega) ?_
          unfold ef
          exact Xs false [0,1,2] X0
      · ((repeat' (first|refine Va X0 ?_|(refine Xi ?_ ?_<;>try intro ht)|exact Xx|fail)))
        rw[cB (by omega),mh] at hr
        subst hr
        refine av _ _ rfl ?_;clear aq av Ql
        repeat (refine Xu ?_)
        refine Vb X0 ?_
        refine aU (fun z:Nat × Int=>(⟨aw [(6,.ptr 2 0 0),(20,.lit (.int .i64 z.2)),(140,.ref 1 1 0 m.rules.toNat),(141,.lit (.int .i64 m.rules.toNat)),(142,.lit (.int .i64 z.1))],[.var (ar m),.arr 1 (ints out),.var [.ref 1 1 0 m.rules.toNat]]⟩:St))
          (fun z=>z.1≤out.length∧bF z.2∧iF (out.drop z.1) z.2=iF out 0) (fun z=>out.length - z.1) (0,0) ⟨aM _,by unfold bF;decide,rfl⟩ (Xv X0) ?_
        rintro ⟨j,n⟩ ⟨hj,dR,eE⟩ Ql aq av
        dsimp only at hj dR eE ⊢
        by_cases c9:j<out.length
        · have n5:=cA out j 0 c9
          have Bp:=aJ.get j
          generalize pP:out.getD j 0=x at *
          rw[n5,iF] at eE
          ((repeat' (first|refine Vc @pP (Hi n x dR Bp) ?_|(refine Xi ?_ ?_<;>try intro ht)|exact Xx|fail)))
          exact aq _ (j+1,dw n x) ⟨by dsimp only;omega,xd dR Bp,eE⟩ (by dsimp only;omega) (Xv X0)
        · ((repeat' (first|refine Va X0 ?_|(refine Xi ?_ ?_<;>try intro ht)|exact Xx|fail)))
          rw[cB (by omega),iF] at eE
          refine av _ _ rfl ?_;clear aq av Ql
          repeat (refine Xu ?_)
          refine Vb X0 ?_
          subst eE
          refine cP [] true (by decide) trivial (by decide) (by decide) (aE.mX (.pure rfl) ?_)
          rw[← fT]
          first|exact .pure rfl|exact .eq rfl|exact .fz rfl (by simp only[Bc,Rc])
theorem Ok (m:aj) (plan:List Int) (hb:MB m) (cq:plan.length<9223372036854775808):an Tryz.prog 72 [.agg (ar m),.tree 1 (ints plan)] [] (.bG [.lit (.int .i64 (nV m plan).1),.tree 1 (ints (nV m plan).2.1),.lit (.int .i64 (nV m plan).2.2)]) []:=by
  generalize ao:nV m plan=res
  unfold nV at ao
  refine an.aD (fn:=Tryz.f72) 25 0 [.tmp 4,.tmp 5,.tmp 6] Tryz.func72 rfl rfl rfl rfl rfl (by simp) ?_
  ((repeat' (first|refine Vd X0 (qz m hb) ?_|(refine Xi ?_ ?_<;>try intro ht)|fail))<;>try with_reducible intro K hK)
  · rw[if_pos ht] at ao
    rw[← ao]
    exact cP [] true (by decide) trivial (by decide) (by decide) (DR (.pure rfl) aE.nil (.pure rfl))
  rw[if_neg (by omega)] at ao
  ((try revert hK K);(repeat' (first|refine Vd X0 (R4 m plan cq) ?_|(refine Xi ?_ ?_<;>try intro ht)|fail))<;>try with_reducible intro K hK)
  · rw[if_pos ht] at ao
    rw[← ao]
    exact cP [] true (by decide) trivial (by decide) (by decide) (DR (.pure rfl) aE.nil (.pure rfl))
  rw[if_neg (by simp[*])] at ao
  rename_i hv
  have j9:=acn m plan (eB.1 hv) (RD ht)
  ((try revert hK K);(refine Vd X0 j9 ?_))
  rw[← ao]
  exact Cu rfl
def je (L:List Int) (k:Nat):Ob:=.var [.tree 1 (ints L),.lit (.int .i64 k)]
def uE (m:aj):List AV:=[.tree 1 (rowsOf bD m.cls),.ref 1 4 0 m.ae.length,.tree 4 (rowsOf aO m.au),.lit (.int .i64 m.rules)]
theorem aco {P:Program} {f:FuncId} {args:List AV} {aa:List Ob} {gH TF:AV→List Ob→Prop} (h:eO P f args aa gH)
    (ht:∀ r os,gH r os→∃ r2 dJ,TF r2 dJ∧aB aa.length ⟨fun k=>[r].getD k .undef,os⟩ ⟨fun k=>[r2].getD k .undef,dJ⟩):eO P f args aa TF:=by
  refine⟨h.1,fun γ jS iK=>Calls.mono (h.2 γ jS iK) ?_⟩
  rintro e w' ⟨res,a8,cv,aF,h0,h1,h2,h3,h4,h5⟩
  obtain ⟨r2,dJ,hp,ht⟩:=ht res a8 h0
  obtain ⟨z6,a1,a2,a3,a4⟩:=ht aa γ aF rfl h4 h5
  exact⟨r2,dJ,cv,z6,hp,h1,a1.trans h2,a2.trans h3,a3,a4⟩
theorem acp (m:aj) (o:Ob) (ho:∀ ρ,bO ρ o=o):aB 1 ⟨fun k=>[AV.agg (uE m)].getD k .undef,[o,.arr 4 (rowsOf bu m.ae)]⟩ ⟨fun k=>[AV.agg (ar m)].getD k .undef,[o]⟩:=by
  have e:∀ x:AV,(fun k=>[x].getD k AV.undef)=aw [(0,x)]:=fun x=>by
    funext k
    cases k<;>rfl
  rw[e (.agg (ar m))]
  refine aB.ak [0] true _ _ (by decide) ⟨⟨by simp,.inr (by rw[ho];rfl)⟩,trivial⟩ (by decide) (fun i hi=>by
    obtain rfl:i=0:=by omega
    rfl) ⟨?_,trivial⟩
  refine (aE.agg _ _ rfl (dY.spec (R:=aE _ _ _ _) (cs:=ar m) (ds:=uE m) ⟨.pure rfl,aE.bW rfl (eT _) (by rw[b8]) (gK (by decide)) (jy _),.pure rfl,.pure rfl,trivial⟩).2)
theorem TG (L:List Int) (k:Nat) (n8 options:Nat) (hk:k≤L.length) (hL:L.length<1000000) (hc:n8≤24) (ho:options≤24) (TH:1≤options) :
    eO Tryz.prog 26 [.ptr 0 0 0,.lit (.int .i64 n8),.lit (.int .i64 options)] [je L k] (fun r os=>∃ m k',MM m n8 options∧k'≤L.length∧r=.agg (uE m)∧os=[je L k',.arr 4 (rowsOf bu m.ae)]):=by
  unfold je
  refine eO.aD (fn:=Tryz.f26) 199 1 [.cell 6 29] Tryz.func26 rfl rfl rfl rfl rfl (by simp) ?_
  ((refine Vb X0 ?_)<;>try with_reducible intro K hK)
  refine iz [0] (jA L k 4 (by unfold fc;omega) hk hL) (by decide) ⟨rfl,trivial⟩ ⟨.eq rfl,.pure rfl,trivial⟩ ?_
  have hv:=mf (L:=L) (k:=k) (n:=4) (by omega)
  have bS:=gw hk
  generalize eH L k 4=v at *
  generalize cU L k=k2 at *
  clear hk
  ((try revert hK K);(refine Vb X0 ?_)<;>try with_reducible intro K hK)
  refine iz [0] (jA L k2 (n8+1) (by unfold fc;omega) bS hL) (by decide) ⟨rfl,trivial⟩ ⟨.eq rfl,.pure rfl,trivial⟩ ?_
  have Ic:=mf (L:=L) (k:=k2) (n:=n8+1) (by omega)
  have kG:=gw bS
  generalize eH L k2 (n8+1)=n at *
  generalize cU L k2=k3 at *
  clear bS
  obtain ⟨c0,rfl⟩ :∃c0:Nat,n=c0:=⟨n.toNat,by omega⟩
  generalize hR:1+v=R
  have yn:1≤R∧R≤4:=by omega
  ((try revert hK K);(refine Vb X0 ?_))
  refine aU (fun z:Nat × Nat × List (List bx)=>(⟨aw [(0,.ptr 0 0 0),(2,.lit (.int .i64 options)),(6,.ptr 1 0 0),(7,.ptr 2 0 0),(8,.lit (.int .i64 z.1))],cI L z.2.1 z.2.2 [] [] R⟩:St))
    (fun z=>z.1+z.2.2.length≤n8∧z.2.1≤L.length∧∀ l∈z.2.2,(1≤l.length∧l.length≤options)∧RK R l) (fun z=>z.1) (c0,k3,[]) ⟨by simp;omega,kG,by simp⟩ ?_ ?_
  · refine aB.trans (aB.ld 2 0 1 rfl rfl (by decide)) ?_
    refine aB.trans (aB.ld 2 1 4 rfl rfl (by decide)) ?_
    refine aB.trans (aB.ld 2 2 4 rfl rfl (by decide)) ?_
    exact Xv X0
  clear Ic kG
  rintro ⟨c,k,cls⟩ ⟨aR,hk,tp⟩ Ql aq av
  dsimp only at aR hk tp ⊢
  unfold cI
  by_cases nQ:0<c
  · obtain ⟨c',rfl⟩ :∃c',c=c'+1:=⟨c - 1,by omega⟩
    have oN:((c'+1:Nat):Int) - 1=c':=by omega
    ((repeat' (first|refine Va X0 ?_|(refine Xi ?_ ?_<;>try intro ht)|exact Xx|fail))<;>try with_reducible intro K hK)
    refine iz [0] (jA L k options (by unfold fc;omega) hk hL) (by decide) ⟨rfl,trivial⟩ ⟨.eq rfl,.pure rfl,trivial⟩ ?_
    have Ic:=mf (L:=L) (k:=k) (n:=options) (by omega)
    have bS:=gw hk
    generalize eH L k options=n at *
    generalize cU L k=k2 at *
    clear hk
    obtain ⟨e0,oL⟩ :∃e0:Nat,1+n=e0:=⟨(1+n).toNat,by omega⟩
    ((try revert hK K);(refine Va @oL ?_))
    refine aU (fun z:Nat × Nat × List bx=>(⟨aw [(0,.ptr 0 0 0),(2,.lit (.int .i64 options)),(6,.ptr 1 0 0),(7,.ptr 2 0 0),(8,.lit (.int .i64 (c'+1:Nat))),(9,.ref 6 6 0 z.2.2.length),(10,.lit (.int .i64 z.1))],cI L z.2.1 cls [] [] R++[.arr 6 (rowsOf cD z.2.2)]⟩:St))
      (fun z=>z.1+z.2.2.length=e0∧z.2.1≤L.length∧RK R z.2.2) (fun z=>z.1) (e0,k2,[]) ⟨by simp,bS,by intro o ho;simp at ho⟩ ?_ ?_
    · refine aB.trans (aB.nil 9 6 (by simp only[Kc,simprocAttr]) (by decide)) ?_
      unfold cI
      exact Xv X0
    clear bS
    rintro ⟨e,k,l⟩ ⟨um,hk,hl⟩ eo bP bM
    dsimp only at um hk hl ⊢
    unfold cI
    simp only[da,dh]
    by_cases L3:0<e
    · obtain ⟨e',rfl⟩ :∃e',e=e'+1:=⟨e - 1,by omega⟩
      have sI:((e'+1:Nat):Int) - 1=e':=by omega
      ((repeat' (first|refine Va X0 ?_|(refine Xi ?_ ?_<;>try intro ht)|exact Xx|fail))<;>try with_reducible intro K hK)
      refine iz [0] (jA L k 3 (by unfold fc;omega) hk hL) (by decide) ⟨rfl,trivial⟩ ⟨.eq rfl,.pure rfl,trivial⟩ ?_
      have e9:=mf (L:=L) (k:=k) (n:=3) (by omega)
      have bS:=gw hk
      generalize eH L k 3=n1 at *
      generalize cU L k=k2 at *
      clear hk
      ((try revert hK K);(refine Va X0 ?_)<;>try with_reducible intro K hK)
      refine iz [0] (jA L k2 2 (by unfold fc;omega) bS hL) (by decide) ⟨rfl,trivial⟩ ⟨.eq rfl,.pure rfl,trivial⟩ ?_
      have hk:=gw bS
      generalize eH L k2 2=n2 at *
      generalize cU L k2=k at *
      clear bS
      ((try revert hK K);(refine Va X0 ?_)<;>try with_reducible intro K hK)
      refine iz [0] (jA L k 3 (by unfold fc;omega) hk hL) (by decide) ⟨rfl,trivial⟩ ⟨.eq rfl,.pure rfl,trivial⟩ ?_
      have bS:=gw hk
      generalize eH L k 3=n3 at *
      generalize cU L k=k2 at *
      clear hk
      ((try revert hK K);(refine Va X0 ?_)<;>try with_reducible intro K hK)
      refine iz [0] (jA L k2 3 (by unfold fc;omega) bS hL) (by decide) ⟨rfl,trivial⟩ ⟨.eq rfl,.pure rfl,trivial⟩ ?_
      have hn4:=mf (L:=L) (k:=k2) (n:=3) (by omega)
      have hk:=gw bS
      generalize eH L k2 3=n4 at *
      generalize cU L k2=k at *
      clear bS
      ((try revert hK K);(refine Va X0 ?_))
      generalize TI:1+n1=w1
      generalize hw4:n4 - 1=w4
      refine aU (fun z:Nat × Nat × List (Int × Int)=>(⟨aw [(0,.ptr 0 0 0),(2,.lit (.int .i64 options)),(6,.ptr 1 0 0),(7,.ptr 2 0 0),(8,.lit (.int .i64 (c'+1:Nat))),(9,.ref 6 6 0 l.length),(10,.lit (.int .i64 (e'+1:Nat))),(11,.ptr 7 0 0),(12,.lit (.int .i64 z.1))],
          cI L z.2.1 cls [] [] R++[.arr 6 (rowsOf cD l),.var [.lit (.int .i64 w1),.lit (.int .i64 n2),.lit (.int .i64 n3),.lit (.int .i64 1),.lit (.int .i64 w4),.ref 8 2 0 z.2.2.length],.arr 2 (rowsOf bA z.2.2)]⟩:St))
        (fun z=>(z.1:Int)≤R∧z.2.1≤L.length∧z.2.2.length≤z.1∧dj R none z.2.2=true∧∀ x∈z.2.2,x.1<z.1) (fun z=>R.toNat - z.1) (0,k,[]) ⟨by dsimp only;omega,hk,Nat.le_refl _,rfl,by simp⟩ ?_ ?_
      · refine aB.trans (aB.ld 7 5 2 rfl rfl (by decide)) ?_
        unfold cI
        exact Xv X0
      clear hk
      rintro ⟨u,k,ch⟩ ⟨hu,hk,cE,ep,bw⟩ ma gM eV
      dsimp only at hu hk cE ep bw ⊢
      unfold cI
      simp only[da,dh]
      by_cases Ie:(u:Int)<R
      · ((repeat' (first|refine Va X0 ?_|(refine Xi ?_ ?_<;>try intro ht)|exact Xx|fail))<;>try with_reducible intro K hK)
        refine iz [0] (Hh L k hk hL) (by decide) ⟨rfl,trivial⟩ ⟨.eq rfl,trivial⟩ ?_
        obtain ⟨sH,ri,Br⟩:=Hq L k
        have bS:=Hs hk
        generalize n7 L k=cv at *
        generalize s9 L k=k2 at *
        clear hk
        ((try revert hK K);(repeat' (first|refine Va X0 ?_|(refine V2 X0 ?_ ?_<;>try with_reducible intro hb)|(refine Xi ?_ ?_<;>try intro ht)|exact Xx|fail))<;>try with_reducible intro K hK)
        · refine iz [0] (yQ L k2 2 (by unfold fc;omega) (by decide) bS hL) (by decide) ⟨rfl,trivial⟩ ⟨.eq rfl,.pure rfl,trivial⟩ ?_
          have hk:=gw bS
          generalize xc L k2 2=b at *
          generalize cU L k2=k at *
          clear bS
          ((try revert hK K);(repeat' (first|refine Va X0 ?_|(refine Xi ?_ ?_<;>try intro ht)|fail)))
          · refine gM _ (u+1,k,ch++[((u:Int),cv)]) ⟨by dsimp only;omega,hk,by simp;omega,RE ep (by rw[iu,decide_eq_true_eq];omega) (Br (by omega)) (fun x hx=>bw x hx) (by simp),fun x hx=>?_⟩ (by dsimp only;omega) ?_
            · rcases cr.1 hx with hx | hx
              · have:=bw x hx;dsimp only;omega
              · simp only[eM] at hx;subst hx;dsimp only;omega
            · unfold cI
              simp only[da,dh]
              rw[show rowsOf bA ch++[[AV.lit (.int .i64 u),AV.lit (.int .i64 cv)]]=rowsOf bA (ch++[((u:Int),cv)]) from jW (enc:=bA) ch ((u:Int),cv)]
              exact Xs false [0,1,2,3,4,5,6,7,10] X0
          · exact gM _ (u+1,k,ch) ⟨by dsimp only;omega,hk,by dsimp only;omega,ep,fun x hx=>by have:=bw x hx;dsimp only;omega⟩ (by dsimp only;omega) (by unfold cI;exact Xv X0)
        · exact gM _ (u+1,k2,ch) ⟨by dsimp only;omega,bS,by dsimp only;omega,ep,fun x hx=>by have:=bw x hx;dsimp only;omega⟩ (by dsimp only;omega) (by unfold cI;exact Xv X0)
      · ((repeat' (first|refine Va X0 ?_|(refine Xi ?_ ?_<;>try intro ht)|exact Xx|fail)))
        refine eV _ _ rfl ?_
        clear gM eV ma
        repeat (refine Xu ?_)
        refine bJ (aB.sM 8 7 5 2 rfl rfl (by rw[b8];rfl) (eT _) (jy _)) ?_
        refine bJ (σ':=⟨aw [(0,.ptr 0 0 0),(2,.lit (.int .i64 options)),(6,.ptr 1 0 0),(7,.ptr 2 0 0),(8,.lit (.int .i64 (c'+1:Nat))),(9,.ref 6 6 0 l.length),(10,.lit (.int .i64 (e'+1:Nat))),(11,.ptr 7 0 0)],
            cI L k cls [] [] R++[.arr 6 (rowsOf cD l),.var (cD ⟨w1,n2,n3,1,w4,ch⟩),.gone]⟩) (by unfold cI;exact Xv X0) ?_
        unfold cI
        simp only[da,dh]
        have sI:((e'+1:Nat):Int) - 1=e':=by omega
        refine Va @sI ?_
        refine bP _ (e',k,l++[⟨w1,n2,n3,1,w4,ch⟩]) ⟨by simp;omega,hk,?_⟩ (by dsimp only;omega) ?_
        · intro o ho
          rcases cr.1 ho with ho | ho
          · exact hl o ho
          · simp only[eM] at ho;subst ho;exact ep
        · unfold cI
          simp only[da,dh]
          rw[show rowsOf cD l++[[AV.lit (.int .i64 w1),AV.lit (.int .i64 n2),AV.lit (.int .i64 n3),AV.lit (.int .i64 1),AV.lit (.int .i64 w4),AV.tree 2 (rowsOf bA ch)]]=rowsOf cD (l++[⟨w1,n2,n3,1,w4,ch⟩]) from jW (enc:=cD) l ⟨w1,n2,n3,1,w4,ch⟩]
          exact Xs false [0,1,2,3,4,5,10] X0
    · obtain rfl:e=0:=by omega
      ((repeat' (first|refine Va X0 ?_|(refine Xi ?_ ?_<;>try intro ht)|exact Xx|fail)))
      refine bM _ _ rfl ?_
      clear bP bM eo
      repeat (refine Xu ?_)
      refine bJ (σ':=⟨aw [(0,.ptr 0 0 0),(2,.lit (.int .i64 options)),(6,.ptr 1 0 0),(7,.ptr 2 0 0),(8,.lit (.int .i64 (c'+1:Nat))),(9,.tree 6 (rowsOf cD l))],cI L k cls [] [] R⟩) ?_ ?_
      · unfold cI
        exact Xs true [0,1,2,3,4,5] X0
      unfold cI
      refine Va @oN ?_
      refine aq _ (c',k,cls++[l]) ⟨by simp;omega,hk,?_⟩ (by dsimp only;omega) ?_
      · intro x hx
        rcases cr.1 hx with hx | hx
        · exact tp x hx
        · simp only[eM] at hx;subst hx;exact⟨⟨by omega,by omega⟩,hl⟩
      · unfold cI
        rw[show rowsOf bD cls++[[AV.tree 6 (rowsOf cD l)]]=rowsOf bD (cls++[l]) from jW (enc:=bD) cls l]
        exact Xs false [0,1,2,7,4,5] X0
  obtain rfl:c=0:=by omega
  ((repeat' (first|refine Va X0 ?_|(refine Xi ?_ ?_<;>try intro ht)|exact Xx|fail)))
  refine av _ _ rfl ?_;clear aq av Ql
  repeat (refine Xu ?_)
  clear nQ
  refine bJ (σ':=⟨aw [(0,.ptr 0 0 0),(6,.ptr 1 0 0),(7,.ptr 2 0 0)],cI L k cls [] [] R⟩) (by unfold cI;exact Xv X0) ?_
  unfold cI
  refine Va X0 ?_
  have cE:cls.length≤24:=by omega
  have Ig:∀ i,(cls.getD i default).length≤24:=fun i=>by
    rcases Nat.lt_or_ge i cls.length with h | h
    · have:=(tp _ (aC (d:=default) h)).1;omega
    · rw[List.getD_eq_getElem?_getD,List.getElem?_eq_none h];decide
  refine aU (fun z:Nat × Nat × List Pr=>(⟨aw [(0,.ptr 0 0 0),(6,.ptr 1 0 0),(7,.ptr 2 0 0),(14,.lit (.int .i64 z.1))],cI L z.2.1 cls z.2.2 [] R⟩:St))
    (fun z=>(z.1:Int)≤R∧z.2.1≤L.length∧uk cls R z.2.2 z.1 0 0) (fun z=>R.toNat - z.1) (0,k,[]) ⟨by dsimp only;omega,hk,rfl,by simp,by simp⟩ (by unfold cI;exact Xv X0) ?_
  clear hk
  rintro ⟨u,k,ae⟩ ⟨hu,hk,hP⟩ Ql aq av
  dsimp only at hu hk hP ⊢
  unfold cI
  by_cases Ie:(u:Int)<R
  · ((repeat' (first|refine Va X0 ?_|(refine Xi ?_ ?_<;>try intro ht)|exact Xx|fail)))
    refine aU (fun z:Nat × Nat × List Pr=>(⟨aw [(0,.ptr 0 0 0),(6,.ptr 1 0 0),(7,.ptr 2 0 0),(14,.lit (.int .i64 u)),(15,.lit (.int .i64 z.1))],cI L z.2.1 cls z.2.2 [] R⟩:St))
      (fun z=>z.1≤cls.length∧z.2.1≤L.length∧uk cls R z.2.2 u z.1 0) (fun z=>cls.length - z.1) (0,k,ae) ⟨by dsimp only;omega,hk,hP⟩ (by unfold cI;exact Xv X0) ?_
    clear hk hP
    rintro ⟨i,k,ae⟩ ⟨hi,hk,hP⟩ eo bP bM
    dsimp only at hi hk hP ⊢
    unfold cI
    by_cases hi':i<cls.length
    · ((repeat' (first|refine Va X0 ?_|(refine Xi ?_ ?_<;>try intro ht)|exact Xx|fail)))
      refine aU (fun z:Nat × Nat × List Pr=>(⟨aw [(0,.ptr 0 0 0),(6,.ptr 1 0 0),(7,.ptr 2 0 0),(14,.lit (.int .i64 u)),(15,.lit (.int .i64 i)),(16,.lit (.int .i64 z.1))],cI L z.2.1 cls z.2.2 [] R⟩:St))
        (fun z=>i<z.1∧z.1≤cls.length∧z.2.1≤L.length∧uk cls R z.2.2 u i z.1) (fun z=>cls.length - z.1) (i+1,k,ae) ⟨by dsimp only;omega,by dsimp only;omega,hk,hP.mono (by omega) (by omega)⟩ (by unfold cI;exact Xv X0) ?_
      clear hk hP
      rintro ⟨j,k,ae⟩ ⟨pO,hj,hk,hP⟩ ma gM eV
      dsimp only at pO hj hk hP ⊢
      unfold cI
      by_cases c9:j<cls.length
      · ((repeat' (first|refine Va X0 ?_|(refine Xi ?_ ?_<;>try intro ht)|exact Xx|fail))<;>try with_reducible intro K hK)
        refine iz [0] (yQ L k 3 (by unfold fc;omega) (by decide) hk hL) (by decide) ⟨rfl,trivial⟩ ⟨.eq rfl,.pure rfl,trivial⟩ ?_
        have bS:=gw hk
        generalize xc L k 3=b at *
        generalize cU L k=k2 at *
        clear hk
        have g1:=Ig i
        have g2:=Ig j
        have re:=(tp _ (aC (d:=default) hi')).1
        have CK:=(tp _ (aC (d:=default) c9)).1
        have hmul:((cls.getD i default).length:Int) * (cls.getD j default).length=((cls.getD i default).length * (cls.getD j default).length:Nat):=by simp
        have afQ:(cls.getD i default).length * (cls.getD j default).length≤24 * 24:=Nat.mul_le_mul g1 g2
        generalize CJ:(cls.getD i default).length * (cls.getD j default).length=nn at *
        ((try revert hK K);(repeat' (first|refine Va @hmul ?_|(refine Xi ?_ ?_<;>try intro ht)|fail)))
        rotate_left
        · exact gM _ (j+1,k2,ae) ⟨by dsimp only;omega,by dsimp only;omega,bS,hP.mono (by omega) (by omega)⟩ (by dsimp only;omega) (by unfold cI;exact Xv X0)
        refine aU (fun z:Nat × Nat × List Int=>(⟨aw [(0,.ptr 0 0 0),(6,.ptr 1 0 0),(7,.ptr 2 0 0),(14,.lit (.int .i64 u)),(15,.lit (.int .i64 i)),(16,.lit (.int .i64 j)),(17,.ptr 6 0 0),(18,.lit (.int .i64 z.1))],
            cI L z.2.1 cls ae [] R++[.var [.lit (.int .i64 i),.lit (.int .i64 j),.lit (.int .i64 u),.ref 7 1 0 z.2.2.length],.arr 1 (ints z.2.2)]⟩:St))
          (fun z=>z.1+z.2.2.length=nn∧z.2.1≤L.length∧∀ x∈z.2.2,0≤x∧(0<x→iR x=true)) (fun z=>z.1) (nn,k2,[]) ⟨by simp,bS,by simp⟩ ?_ ?_
        · refine aB.trans (aB.ld 6 3 1 rfl rfl (by decide)) ?_
          unfold cI
          exact Xv X0
        clear bS
        rintro ⟨w,k,az⟩ ⟨hw,hk,DZ⟩ w5 vr lh
        dsimp only at hw hk DZ ⊢
        unfold cI
        simp only[da,dh]
        by_cases Ci:0<w
        · obtain ⟨w',rfl⟩ :∃w',w=w'+1:=⟨w - 1,by omega⟩
          have TI:((w'+1:Nat):Int) - 1=w':=by omega
          ((repeat' (first|refine Va X0 ?_|(refine Xi ?_ ?_<;>try intro ht)|exact Xx|fail)))
          refine jT [] (.take 2 (.both 0 (.both 1 (.take 3 (.take 4 (.take 5 (.take 6 (.take 7 .nil))))) 3 (.take 1 (.take 4 (.take 5 (.take 6 (.take 7 .nil)))))) 3 (.take 0 (.take 1 (.take 4 (.take 5 (.take 6 (.take 7 .nil)))))))) rfl (by decide) (by decide +kernel) ?_
          simp (disch:=omega) only[Ac,↓Pc,simprocAttr,xV,uW,uV,cW,dT]
          refine⟨⟨?_,?_⟩,?_⟩
          all_goals refine iz [0] (Hh L k hk hL) (by decide) ⟨rfl,trivial⟩ ⟨.eq rfl,trivial⟩ ?_
          all_goals obtain ⟨sH,ri,Br⟩:=Hq L k
          all_goals have bS:=Hs hk
          all_goals generalize n7 L k=cv at *
          all_goals generalize s9 L k=k2 at *
          all_goals simp (disch:=omega) only[Ac,↓Pc,simprocAttr,xV,uW,uV,cW,dT]
          all_goals refine⟨by omega,?_⟩
          all_goals repeat (refine Xu ?_)
          all_goals ((repeat' (first|refine Va @TI ?_|fail)))
          all_goals refine vr _ (w',k2,az++[cv]) ⟨by simp;omega,bS,fun x hx=>?_⟩ (by dsimp only;omega) ?_
          all_goals first
            | (rcases cr.1 hx with hx | hx
               · exact DZ x hx
               · simp only[eM] at hx;subst hx;exact⟨sH,Br⟩)
            | (unfold cI;simp only[da,dh];exact Xs false [0,1,2,3,4,5,6,9] X0)
        · obtain rfl:w=0:=by omega
          ((repeat' (first|refine Va X0 ?_|(refine Xi ?_ ?_<;>try intro ht)|exact Xx|fail)))
          refine lh _ _ rfl ?_
          clear vr lh w5
          repeat (refine Xu ?_)
          refine bJ (aB.sM 7 6 3 1 rfl rfl (by rw[kd];rfl) (oE _) (pw _)) ?_
          refine bJ (σ':=⟨aw [(0,.ptr 0 0 0),(6,.ptr 1 0 0),(7,.ptr 2 0 0),(14,.lit (.int .i64 u)),(15,.lit (.int .i64 i)),(16,.lit (.int .i64 j)),(17,.ptr 6 0 0)],
              cI L k cls ae [] R++[.var (bu ⟨i,j,u,az⟩),.gone]⟩) (by unfold cI;exact Xv X0) ?_
          unfold cI
          simp only[da,dh]
          have cq:=hP.len
          refine Va X0 ?_
          refine gM _ (j+1,k,ae++[⟨i,j,u,az⟩]) ⟨by dsimp only;omega,by dsimp only;omega,hk,hP.app (aaO Ie pO c9 (by rw[CJ];omega) DZ)⟩ (by dsimp only;omega) ?_
          unfold cI
          rw[show rowsOf bu ae++[[AV.lit (.int .i64 i),AV.lit (.int .i64 j),AV.lit (.int .i64 u),AV.tree 1 (ints az)]]=rowsOf bu (ae++[⟨i,j,u,az⟩]) from jW (enc:=bu) ae ⟨i,j,u,az⟩]
          exact Xs false [0,1,2,3,9,5] X0
      · ((repeat' (first|refine Va X0 ?_|(refine Xi ?_ ?_<;>try intro ht)|exact Xx|fail)))
        refine eV _ _ rfl ?_
        clear gM eV ma
        repeat (refine Xu ?_)
        refine Va X0 ?_
        exact bP _ (i+1,k,ae) ⟨by dsimp only;omega,hk,hP.mono (by omega) (by omega)⟩ (by dsimp only;omega) (by unfold cI;exact Xv X0)
    · ((repeat' (first|refine Va X0 ?_|(refine Xi ?_ ?_<;>try intro ht)|exact Xx|fail)))
      refine bM _ _ rfl ?_
      clear bP bM eo
      repeat (refine Xu ?_)
      refine Va X0 ?_
      exact aq _ (u+1,k,ae) ⟨by dsimp only;omega,hk,hP.mono (by omega) (by omega)⟩ (by dsimp only;omega) (by unfold cI;exact Xv X0)
  have acq:=hP.ok
  have zj:ae.length≤4000:=by have:=hP.len;omega
  ((repeat' (first|refine Va X0 ?_|(refine Xi ?_ ?_<;>try intro ht)|exact Xx|fail)))
  refine av _ _ rfl ?_;clear aq av Ql
  repeat (refine Xu ?_)
  refine bJ (σ':=⟨aw [(0,.ptr 0 0 0),(6,.ptr 1 0 0),(7,.ptr 2 0 0)],cI L k cls ae [] R⟩) (by unfold cI;exact Xv X0) ?_
  clear Ie hu hP
  unfold cI
  ((refine Va X0 ?_)<;>try with_reducible intro K hK)
  refine iz [0] (jA L k 3 (by unfold fc;omega) hk hL) (by decide) ⟨rfl,trivial⟩ ⟨.eq rfl,.pure rfl,trivial⟩ ?_
  have Ic:=mf (L:=L) (k:=k) (n:=3) (by omega)
  have bS:=gw hk
  generalize eH L k 3=n at *
  generalize cU L k=k2 at *
  clear hk
  obtain ⟨c1,rfl⟩ :∃c1:Nat,n=c1:=⟨n.toNat,by omega⟩
  ((try revert hK K);(refine Va X0 ?_))
  refine aU (fun z:Nat × Nat × List Ct=>(⟨aw [(0,.ptr 0 0 0),(6,.ptr 1 0 0),(7,.ptr 2 0 0),(19,.lit (.int .i64 z.1))],cI L z.2.1 cls ae z.2.2 R⟩:St))
    (fun z=>z.1+z.2.2.length≤2∧z.2.1≤L.length∧∀ x∈z.2.2,fY ⟨cls,[],[],R⟩ x=true) (fun z=>z.1) (c1,k2,[]) ⟨by simp;omega,bS,by simp⟩ (by unfold cI;exact Xv X0) ?_
  clear bS
  rintro ⟨c,k,au⟩ ⟨aR,hk,Ih⟩ Ql aq av
  dsimp only at aR hk Ih ⊢
  unfold cI
  by_cases nQ:0<c
  · obtain ⟨c',rfl⟩ :∃c',c=c'+1:=⟨c - 1,by omega⟩
    have oN:((c'+1:Nat):Int) - 1=c':=by omega
    ((repeat' (first|refine Va X0 ?_|(refine Xi ?_ ?_<;>try intro ht)|exact Xx|fail))<;>try with_reducible intro K hK)
    refine iz [0] (jA L k R (by unfold fc;omega) hk hL) (by decide) ⟨rfl,trivial⟩ ⟨.eq rfl,.pure rfl,trivial⟩ ?_
    have e9:=mf (L:=L) (k:=k) (n:=R) (by omega)
    have bS:=gw hk
    generalize eH L k R=n1 at *
    generalize cU L k=k2 at *
    clear hk
    ((try revert hK K);(refine Va X0 ?_)<;>try with_reducible intro K hK)
    refine iz [0] (jA L k2 4 (by unfold fc;omega) bS hL) (by decide) ⟨rfl,trivial⟩ ⟨.eq rfl,.pure rfl,trivial⟩ ?_
    have nN:=mf (L:=L) (k:=k2) (n:=4) (by omega)
    have hk:=gw bS
    generalize eH L k2 4=n2 at *
    generalize cU L k2=k at *
    clear bS
    ((try revert hK K);(refine Va X0 ?_)<;>try with_reducible intro K hK)
    refine iz [0] (Hh L k hk hL) (by decide) ⟨rfl,trivial⟩ ⟨.eq rfl,trivial⟩ ?_
    obtain ⟨sH,ri,Br⟩:=Hq L k
    have bS:=Hs hk
    generalize n7 L k=cv at *
    generalize s9 L k=k2 at *
    clear hk
    have acr:iR (max 1 cv)=true:=by
      by_cases h0:0<cv
      · rw[show max 1 cv=cv by omega];exact Br h0
      · rw[show max 1 cv=1 by omega];decide
    generalize cT:max 1 cv=bL at *
    ((try revert hK K);(refine Va @cT ?_))
    refine aU (fun z:Nat × Nat × List Ld=>(⟨aw [(0,.ptr 0 0 0),(6,.ptr 1 0 0),(7,.ptr 2 0 0),(19,.lit (.int .i64 (c'+1:Nat))),(20,.ptr 6 0 0),(21,.lit (.int .i64 z.1))],
        cI L z.2.1 cls ae au R++[.var [.lit (.int .i64 n1),.ref 7 3 0 z.2.2.length,.lit (.int .i64 n2),.lit (.int .i64 bL)],.arr 3 (rowsOf g6 z.2.2)]⟩:St))
      (fun z=>z.1≤cls.length∧z.2.1≤L.length∧vD cls R z.2.2 z.1 0) (fun z=>cls.length - z.1) (0,k2,[]) ⟨aM _,bS,rfl,by simp,by simp⟩ ?_ ?_
    · refine aB.trans (aB.ld 6 1 3 rfl rfl (by decide)) ?_
      unfold cI
      exact Xv X0
    clear bS
    rintro ⟨i,k,kK⟩ ⟨hi,hk,hI⟩ eo bP bM
    dsimp only at hi hk hI ⊢
    unfold cI
    simp only[da,dh]
    by_cases hi':i<cls.length
    · have re:=Ig i
      generalize gP:cls.getD i default=li at *
      ((repeat' (first|refine Va @gP ?_|(refine Xi ?_ ?_<;>try intro ht)|exact Xx|fail)))
      refine aU (fun z:Nat × Nat × List Ld=>(⟨aw [(0,.ptr 0 0 0),(6,.ptr 1 0 0),(7,.ptr 2 0 0),(19,.lit (.int .i64 (c'+1:Nat))),(20,.ptr 6 0 0),(21,.lit (.int .i64 i)),(22,.lit (.int .i64 z.1))],
          cI L z.2.1 cls ae au R++[.var [.lit (.int .i64 n1),.ref 7 3 0 z.2.2.length,.lit (.int .i64 n2),.lit (.int .i64 bL)],.arr 3 (rowsOf g6 z.2.2)]⟩:St))
        (fun z=>z.1≤li.length∧z.2.1≤L.length∧vD cls R z.2.2 i z.1) (fun z=>li.length - z.1) (0,k,kK) ⟨aM _,hk,hI⟩ (by unfold cI;exact Xv (X2 @da.{0} @dh.{0})) ?_
      clear hk hI
      rintro ⟨j,k,kK⟩ ⟨hj,hk,hI⟩ ma gM eV
      dsimp only at hj hk hI ⊢
      unfold cI
      simp only[da,dh]
      have afR:=hI.len
      by_cases c9:j<li.length
      · ((repeat' (first|refine Va @gP ?_|(refine Xi ?_ ?_<;>try intro ht)|exact Xx|fail))<;>try with_reducible intro K hK)
        refine iz [0] (yQ L k 2 (by unfold fc;omega) (by decide) hk hL) (by decide) ⟨rfl,trivial⟩ ⟨.eq rfl,.pure rfl,trivial⟩ ?_
        have bS:=gw hk
        generalize xc L k 2=b at *
        generalize cU L k=k2 at *
        clear hk
        ((try revert hK K);(repeat' (first|refine Va @gP ?_|(refine Xi ?_ ?_<;>try intro ht)|fail)))
        · refine jT [] (.take 2 (.take 3 (.take 4 (.both 0 (.both 1 (.take 5 (.take 6 (.take 7 (.take 8 (.take 9 (.take 10 (.take 11 .nil))))))) 5 (.take 1 (.take 6 (.take 7 (.take 8 (.take 9 (.take 10 (.take 11 .nil)))))))) 5 (.take 0 (.take 1 (.take 6 (.take 7 (.take 8 (.take 9 (.take 10 (.take 11 .nil)))))))))))) rfl (by decide) (by decide +kernel) ?_
          simp (disch:=omega) only[Ac,↓Pc,simprocAttr,xV,uW,uV,cW,dT]
          refine⟨⟨?_,?_⟩,?_⟩
          all_goals refine iz [0] (jA L k2 3 (by unfold fc;omega) bS hL) (by decide) ⟨rfl,trivial⟩ ⟨.eq rfl,.pure rfl,trivial⟩ ?_
          all_goals have hn3:=mf (L:=L) (k:=k2) (n:=3) (by omega)
          all_goals have hk:=gw bS
          all_goals generalize eH L k2 3=n3 at *
          all_goals generalize cU L k2=k at *
          all_goals clear bS
          all_goals simp (disch:=omega) only[Ac,↓Pc,simprocAttr,xV,uW,uV,cW,dT]
          all_goals refine⟨⟨by omega,by omega⟩,by omega,?_⟩
          all_goals repeat (refine Xu ?_)
          all_goals ((repeat' (first|refine Va X0 ?_|fail)))
          all_goals refine gM _ (j+1,k,kK++[⟨i,j,1+n3⟩]) ⟨by dsimp only;omega,hk,hI.app hi' (by rw[gP];exact c9) ⟨by omega,by omega⟩⟩ (by dsimp only;omega) ?_
          all_goals unfold cI
          all_goals simp only[da,dh]
          all_goals rw[show rowsOf g6 kK++[[AV.lit (.int .i64 i),AV.lit (.int .i64 j),AV.lit (.int .i64 (1+n3))]]=rowsOf g6 (kK++[⟨i,j,1+n3⟩]) from jW (enc:=g6) kK ⟨i,j,1+n3⟩]
          all_goals exact Xs false [0,1,2,3,4,5,6,9] X0
        · exact gM _ (j+1,k2,kK) ⟨by dsimp only;omega,bS,hI.mono (by omega) (by omega)⟩ (by dsimp only;omega) (by unfold cI;exact Xv (X2 @da.{0} @dh.{0}))
      · ((repeat' (first|refine Va @gP ?_|(refine Xi ?_ ?_<;>try intro ht)|exact Xx|fail)))
        refine eV _ _ rfl ?_
        clear gM eV ma
        repeat (refine Xu ?_)
        refine Va X0 ?_
        exact bP _ (i+1,k,kK) ⟨by dsimp only;omega,hk,hI.mono (by omega) (by omega)⟩ (by dsimp only;omega) (by unfold cI;exact Xv (X2 @da.{0} @dh.{0}))
    · ((repeat' (first|refine Va X0 ?_|(refine Xi ?_ ?_<;>try intro ht)|exact Xx|fail)))
      refine bM _ _ rfl ?_
      clear bP bM eo
      repeat (refine Xu ?_)
      refine bJ (aB.sM 7 6 1 3 rfl rfl (by rw[b8];rfl) (eT _) (jy _)) ?_
      refine bJ (σ':=⟨aw [(0,.ptr 0 0 0),(6,.ptr 1 0 0),(7,.ptr 2 0 0),(19,.lit (.int .i64 (c'+1:Nat))),(20,.ptr 6 0 0)],
          cI L k cls ae au R++[.var (aO ⟨n1,kK,n2,bL⟩),.gone]⟩) (by unfold cI;exact Xv X0) ?_
      unfold cI
      simp only[da,dh]
      refine Va @oN ?_
      refine aq _ (c',k,au++[⟨n1,kK,n2,bL⟩]) ⟨by simp;omega,hk,?_⟩ (by dsimp only;omega) ?_
      · intro x hx
        rcases cr.1 hx with hx | hx
        · exact Ih x hx
        · simp only[eM] at hx
          subst hx
          unfold fY iu
          simp only[Bool.and_eq_true,decide_eq_true_eq]
          exact⟨⟨⟨by omega,by omega⟩,acr⟩,hI.ok⟩
      · unfold cI
        rw[show rowsOf aO au++[[AV.lit (.int .i64 n1),AV.tree 3 (rowsOf g6 kK),AV.lit (.int .i64 n2),AV.lit (.int .i64 bL)]]=rowsOf aO (au++[⟨n1,kK,n2,bL⟩]) from jW (enc:=aO) au ⟨n1,kK,n2,bL⟩]
        exact Xs false [0,1,2,3,4,9] X0
  obtain rfl:c=0:=by omega
  ((repeat' (first|refine Va X0 ?_|(refine Xi ?_ ?_<;>try intro ht)|exact Xx|fail)))
  refine av _ _ rfl ?_;clear aq av Ql
  repeat (refine Xu ?_)
  refine Vb X0 ?_
  have hMM:MM ⟨cls,ae,au,R⟩ n8 options:=by
    refine⟨⟨by dsimp only;omega,fun l hl=>by have:=(tp l hl).1;omega,zj,by dsimp only;omega,by dsimp only;omega,fun l hl=>(tp l hl).2,?_,fun x hx=>?_⟩,by dsimp only;omega,fun l hl=>(tp l hl).1,yn,by dsimp only;omega⟩
    · exact (RH _ _).trans acq
    · exact (aaN _).trans (Ih x hx)
  unfold fU
  simp only[dX,dQ]
  simp (disch:=omega) only[Ac,↓Pc,simprocAttr]
  refine⟨_,_,⟨⟨cls,ae,au,R⟩,k,hMM,hk,rfl,rfl⟩,?_⟩
  refine cP [0,4] true (by decide) ⟨⟨by simp,.inr rfl⟩,⟨by simp,.inr (by rw[qo];rfl)⟩,trivial⟩ (by decide) (by decide) (aE.agg _ _ rfl (dY.spec (R:=aE _ _ _ _) (cs:=uE ⟨cls,ae,au,R⟩) (ds:=[.ref 3 1 0 cls.length,.ref 4 4 0 ae.length,.ref 5 4 0 au.length,.lit (.int .i64 R)]) ⟨?_,.eq rfl,?_,.pure rfl,trivial⟩).2)
  · first|exact .pure rfl|exact .eq rfl|exact .fz rfl (by simp only[Bc,Rc])
  · first|exact .pure rfl|exact .eq rfl|exact .fz rfl (by simp only[Bc,Rc])
theorem acu (L:List Int) (k:Nat) (n8 options:Nat) (hk:k≤L.length) (hL:L.length<1000000) (hc:n8≤24) (ho:options≤24) (TH:1≤options) :
    eO Tryz.prog 26 [.ptr 0 0 0,.lit (.int .i64 n8),.lit (.int .i64 options)] [je L k] (fun r os=>∃ m k',MM m n8 options∧k'≤L.length∧r=.agg (ar m)∧os=[je L k']) :=
  aco (TG L k n8 options hk hL hc ho TH) fun r os h=>by
    obtain ⟨m,k',h1,h2,rfl,rfl⟩:=h
    exact⟨_,_,⟨m,k',h1,h2,rfl,rfl⟩,acp m _ (fun _=>rfl)⟩
end T

