import Derived.Test.YtdipcmigdbnheaaGreatX09
import Derived.Test.YtdipcmigdbnheaaGreatX16
import Derived.Test.YtdipcmigdbnheaaGreatX12
set_option linter.unusedVariables false
set_option linter.unusedSimpArgs false
set_option linter.unnecessarySimpa false
set_option linter.unusedSectionVars false
set_option maxHeartbeats 64000000
set_option maxRecDepth 20000
open Nat renaming zero_le→aM
open Bool renaming true_and→ic
open List renaming drop_eq_nil_of_le→cB,replicate→bY
open Go Go.Am Go.Proofs
open Nat (reduceEqDiff reduceAdd reduceLeDiff reduceMul)
open Int (reduceNeg reduceLE reduceToNat)
namespace T
theorem ace (m:aj) (plan:List Int) (hp:plan.length<9223372036854775808):an Tryz.prog 98 [.agg (ar m),.tree 1 (ints plan)] [] (.lit (.bool (oX m plan))) []:=by
  generalize ao:oX m plan=res
  unfold oX at ao
  refine an.aD (fn:=Tryz.f98) 33 0 [.tmp 4] Tryz.func98 rfl rfl rfl rfl rfl (by simp) ?_
  by_cases hl:plan.length≠m.cls.length
  · rw[if_pos hl] at ao
    ((repeat' (first|refine Vb X0 ?_|(refine Xi ?_ ?_<;>try intro ht)|exact Xx|fail)))
    all_goals first|exact aK rfl (by rw[ao])|(exfalso;omega)
  rw[if_neg hl] at ao
  ((repeat' (first|refine Vb X0 ?_|(refine Xi ?_ ?_<;>try intro ht)|exact Xx|fail)))
  refine aU (fun k:Nat=>(⟨aw [(1,.tree 1 (ints plan)),(2,.ptr 0 0 0),(5,.lit (.int .i64 k))],[.var (ar m)]⟩:St)) (fun k=>k≤plan.length∧qI m k (plan.drop k)=res) (fun k=>plan.length - k) 0 ⟨aM _,ao⟩ (Xv X0) ?_
  rintro k ⟨hk,hr⟩ Ql aq av
  by_cases aH:k<plan.length
  · have hd:=cA plan k 0 aH
    generalize aR:plan.getD k 0=o at *
    rw[hd,qI] at hr
    have dP:=Rt m k o
    generalize g7 m k o=ob at *
    ((repeat' (first|refine Vc @aR dP ?_|(refine V2 @aR ?_ ?_<;>try with_reducible intro hb)|(refine Xi ?_ ?_<;>try intro ht)|exact Xx|fail)))
    · have hrf:res=false:=by rw[← hr,decide_eq_false (p:=o = -1) (by omega),show ob=false by assumption];rfl
      repeat (refine Xu ?_)
      refine Vb X0 ?_
      exact aK rfl (by rw[hrf])
    · rw[show ob=true by assumption,Bool.or_true,ic] at hr
      exact aq _ (k+1) ⟨by omega,hr⟩ (by omega) (Xv X0)
    · rw[decide_eq_true (p:=o = -1) (by omega),Bool.true_or,ic] at hr
      exact aq _ (k+1) ⟨by omega,hr⟩ (by omega) (Xv X0)
  · ((repeat' (first|refine Va X0 ?_|(refine V2 X0 ?_ ?_<;>try with_reducible intro hb)|(refine Xi ?_ ?_<;>try intro ht)|exact Xx|fail)))
    rw[cB (by omega),qI] at hr
    refine av _ _ rfl ?_;clear aq av Ql
    repeat (refine Xu ?_)
    refine Vb X0 ?_
    exact aK rfl (by rw[hr])
theorem acg (m:aj) (p:Pr) (x y:Int) (dG:eW m p=true) (vA:∀ l∈m.cls,l.length≤24) (hx:0≤x∧x<(m.cls.getD p.fst.toNat default).length) (hy:0≤y∧y<(m.cls.getD p.snd.toNat default).length) :
    an Tryz.prog 155 [.agg (ar m),.agg (bu p),.lit (.int .i64 x),.lit (.int .i64 y)] [] (.lit (.int .i64 (lk m p x y))) []:=by
  obtain ⟨q1,q2,q3,q4,q5⟩:=kJ dG
  have AW:=vA _ (aC (l:=m.cls) (i:=p.fst.toNat) (d:=default) (by omega))
  have vB:=vA _ (aC (l:=m.cls) (i:=p.snd.toNat) (d:=default) (by omega))
  have DK:=uh (x:=x) (y:=y) (a:=(m.cls.getD p.fst.toNat default).length) (b:=(m.cls.getD p.snd.toNat default).length) hx hy (by omega) (by omega)
  unfold lk
  rw[← q5] at DK
  generalize gn:m.cls.getD p.snd.toNat default=lb at *
  generalize qF:x * (lb.length:Int)=xm at *
  refine an.aD (fn:=Tryz.f155) 24 0 [.tmp 8] Tryz.func155 rfl rfl rfl rfl rfl (by simp) ?_
  refine Vb (X2 @gn @qF) ?_
  exact aK rfl rfl
theorem ach {most bL n:Int} (hp:bF bL):yR (n - most) bL=jk most bL n:=by
  unfold yR jk bF at *
  by_cases h:n≤most
  · rw[if_pos (by omega),if_pos h]
  · rw[if_neg (by omega),if_neg h]
    split
    · have:bL=1099511627776:=by omega
      subst this
      omega
    · rfl
theorem aci (m:aj) (plan:List Int) (hm:VM m) (hp:PM m plan):an Tryz.prog 99 [.agg (ar m),.tree 1 (ints plan)] [] (.tree 1 (ints (gQ m plan))) []:=by
  have sZ:=hm.cls
  have uo:=hm.ae
  have Hy:=hm.au
  have Bl:=hm.im
  have cq:=hp.len
  unfold gQ
  generalize h1:mg m 0 plan (bY m.rules.toNat 0)=o1
  generalize h2:lL m plan m.ae o1=o2
  generalize h3:mh plan m.au o2=o3
  have Ap:=gR.rep Bl.1
  refine an.aD (fn:=Tryz.f99) 178 0 [.tmp 4] Tryz.func99 rfl rfl rfl rfl rfl (by simp) ?_
  refine Vb X0 ?_
  refine aU (fun z:Nat × List Int=>(⟨aw [(1,.tree 1 (ints plan)),(2,.ptr 0 0 0),(5,.ref 1 1 0 m.rules.toNat),(6,.lit (.int .i64 z.1))],[.var (ar m),.arr 1 (ints z.2)]⟩:St))
    (fun z=>z.1≤plan.length∧gR m.rules z.2∧mg m z.1 (plan.drop z.1) z.2=o1) (fun z=>plan.length - z.1) (0,bY m.rules.toNat 0) ⟨aM _,Ap,h1⟩ (Xv X0) ?_
  rintro ⟨k,out⟩ ⟨hk,aJ,hr⟩ Ql aq av
  dsimp only at hk aJ hr ⊢
  have fT:out.length=m.rules.toNat:=by have:=aJ.1;omega
  by_cases aH:k<plan.length
  · have hd:=cA plan k 0 aH
    have fC:=hp.get k aH
    generalize aR:plan.getD k 0=o at *
    rw[hd,mg] at hr
    by_cases ho:o<0
    · rw[if_pos ho] at hr
      ((repeat' (first|refine Va @aR ?_|(refine Xi ?_ ?_<;>try intro ht)|exact Xx|fail)))
      exact aq _ (k+1,out) ⟨by dsimp only;omega,aJ,hr⟩ (by dsimp only;omega) (Xv X0)
    · rw[if_neg ho] at hr
      obtain ⟨b1,b2,b3,b4⟩:=fZ.1 (fC.resolve_left (by omega))
      have hl:=aC (l:=m.cls) (i:=k) (d:=default) (by omega)
      generalize gP:m.cls.getD k default=l at *
      rw[Int.toNat_natCast,gP] at b4
      have H':=aC (l:=l) (i:=o.toNat) (d:=default) (by omega)
      have ep:=hm.kI l hl _ H'
      generalize lH:l.getD o.toNat default=op at *
      ((repeat' (first|refine Va (X3 @aR @gP @lH) ?_|(refine Xi ?_ ?_<;>try intro ht)|exact Xx|fail)))
      generalize lJ:ng op.ch out=Ia at hr
      have cE:=AS Bl.1 ep
      refine aU (fun z:Nat × List Int=>(⟨aw [(1,.tree 1 (ints plan)),(2,.ptr 0 0 0),(5,.ref 1 1 0 m.rules.toNat),(6,.lit (.int .i64 k)),(7,.tree 2 (rowsOf bA op.ch)),(8,.lit (.int .i64 z.1))],[.var (ar m),.arr 1 (ints z.2)]⟩:St))
        (fun z=>z.1≤op.ch.length∧gR m.rules z.2∧ng (op.ch.drop z.1) z.2=Ia) (fun z=>op.ch.length - z.1) (0,out) ⟨aM _,aJ,lJ⟩ (Xv X0) ?_
      rintro ⟨j,tk⟩ ⟨hj,mF,eE⟩ eo bP bM
      dsimp only at hj mF eE ⊢
      have TD:tk.length=m.rules.toNat:=by have:=mF.1;omega
      by_cases c9:j<op.ch.length
      · have n5:=cA op.ch j default c9
        have gp:=uj ep _ (aC (d:=default) c9)
        generalize pP:op.ch.getD j default=c at *
        rw[n5,ng] at eE
        obtain ⟨pC,rL⟩:=gp
        rw[iu,decide_eq_true_eq] at pC
        have s8:=DQ (tk.getD c.1.toNat 0) c.2 (mF.get _) (jY rL)
        generalize dy:tk.getD c.1.toNat 0=gx at *
        ((repeat' (first|refine Vc (X3 @pP @dy @ints_set) s8 ?_|(refine Xi ?_ ?_<;>try intro ht)|exact Xx|fail)))
        refine bP _ (j+1,ef tk c.1 c.2) ⟨by dsimp only;omega,mF.add (jY rL),eE⟩ (by dsimp only;omega) ?_
        unfold ef
        rw[dy]
        exact Xs false [0,1] X0
      · ((repeat' (first|refine Va X0 ?_|(refine Xi ?_ ?_<;>try intro ht)|exact Xx|fail)))
        rw[cB (by omega),ng] at eE
        subst eE
        refine bM _ _ rfl ?_
        clear bP bM eo
        repeat (refine Xu ?_)
        refine Va X0 ?_
        exact aq _ (k+1,tk) ⟨by dsimp only;omega,mF,hr⟩ (by dsimp only;omega) (Xv X0)
  · ((repeat' (first|refine Va X0 ?_|(refine Xi ?_ ?_<;>try intro ht)|exact Xx|fail)))
    rw[cB (by omega),mg] at hr
    subst hr
    refine av _ _ rfl ?_;clear aq av Ql
    repeat (refine Xu ?_)
    refine Vb X0 ?_
    refine aU (fun z:Nat × List Int=>(⟨aw [(1,.tree 1 (ints plan)),(2,.ptr 0 0 0),(5,.ref 1 1 0 m.rules.toNat),(9,.lit (.int .i64 z.1))],[.var (ar m),.arr 1 (ints z.2)]⟩:St))
      (fun z=>z.1≤m.ae.length∧gR m.rules z.2∧lL m plan (m.ae.drop z.1) z.2=o2) (fun z=>m.ae.length - z.1) (0,out) ⟨aM _,aJ,h2⟩ (Xv X0) ?_
    clear hk aJ fT aH h2
    rintro ⟨k,out⟩ ⟨hk,aJ,hr⟩ Ql aq av
    dsimp only at hk aJ hr ⊢
    have fT:out.length=m.rules.toNat:=by have:=aJ.1;omega
    by_cases aH:k<m.ae.length
    · have hd:=cA m.ae k default aH
      have dG:=jh hm.pr _ (aC (d:=default) aH)
      generalize aR:m.ae.getD k default=p at *
      rw[hd,lL] at hr
      obtain ⟨q1,q2,q3,q4,q5⟩:=kJ dG
      have g1:=hp.get p.fst.toNat (by omega)
      have g2:=hp.get p.snd.toNat (by omega)
      rw[Int.toNat_of_nonneg (by omega)] at g1 g2
      have ui:=yV dG (plan.getD p.fst.toNat 0) (plan.getD p.snd.toNat 0)
      have Er:0≤plan.getD p.fst.toNat 0→0≤plan.getD p.snd.toNat 0→an Tryz.prog 155 [.agg (ar m),.agg (bu p),.lit (.int .i64 (plan.getD p.fst.toNat 0)),.lit (.int .i64 (plan.getD p.snd.toNat 0))] [] (.lit (.int .i64 (lk m p (plan.getD p.fst.toNat 0) (plan.getD p.snd.toNat 0)))) []:=fun h0 h0'=>by
        have a1:=(fZ.1 (g1.resolve_left (by omega)))
        have a2:=(fZ.1 (g2.resolve_left (by omega)))
        exact acg m p _ _ dG hm.opt ⟨a1.2.2.1,a1.2.2.2⟩ ⟨a2.2.2.1,a2.2.2.2⟩
      generalize lk m p (plan.getD p.fst.toNat 0) (plan.getD p.snd.toNat 0)=en at *
      generalize hx:plan.getD p.fst.toNat 0=x at *
      generalize hy:plan.getD p.snd.toNat 0=y at *
      have s8:=DQ (out.getD p.aV.toNat 0) en (aJ.get _) ui
      generalize dy:out.getD p.aV.toNat 0=gx at *
      by_cases mz:0≤x∧0≤y
      · rw[if_pos mz] at hr
        have Er:=Er mz.1 mz.2
        ((repeat' (first|refine Vc (X5 @aR @hx @hy @dy @ints_set) (X2 Er s8) ?_|(refine V2 (X5 @aR @hx @hy @dy @ints_set) ?_ ?_<;>try with_reducible intro hb)|(refine Xi ?_ ?_<;>try intro ht)|exact Xx|fail)))
        refine aq _ (k+1,ef out p.aV en) ⟨by dsimp only;omega,aJ.add ui,hr⟩ (by dsimp only;omega) ?_
        unfold ef
        rw[dy]
        exact Xs false [0,1] X0
      · rw[if_neg mz] at hr
        clear Er
        ((repeat' (first|refine Va (X4 @aR @hx @hy @dy) ?_|(refine V2 (X4 @aR @hx @hy @dy) ?_ ?_<;>try with_reducible intro hb)|(refine Xi ?_ ?_<;>try intro ht)|exact Xx|fail)))
        all_goals exact aq _ (k+1,out) ⟨by dsimp only;omega,aJ,hr⟩ (by dsimp only;omega) (Xs false [0,1] X0)
    · ((repeat' (first|refine Va X0 ?_|(refine V2 X0 ?_ ?_<;>try with_reducible intro hb)|(refine Xi ?_ ?_<;>try intro ht)|exact Xx|fail)))
      rw[cB (by omega),lL] at hr
      subst hr
      refine av _ _ rfl ?_;clear aq av Ql
      repeat (refine Xu ?_)
      refine Vb X0 ?_
      refine aU (fun z:Nat × List Int=>(⟨aw [(1,.tree 1 (ints plan)),(2,.ptr 0 0 0),(5,.ref 1 1 0 m.rules.toNat),(11,.lit (.int .i64 z.1))],[.var (ar m),.arr 1 (ints z.2)]⟩:St))
        (fun z=>z.1≤m.au.length∧gR m.rules z.2∧mh plan (m.au.drop z.1) z.2=o3) (fun z=>m.au.length - z.1) (0,out) ⟨aM _,aJ,h3⟩ (Xv X0) ?_
      clear hk aJ fT aH h3
      rintro ⟨k,out⟩ ⟨hk,aJ,hr⟩ Ql aq av
      dsimp only at hk aJ hr ⊢
      have fT:out.length=m.rules.toNat:=by have:=aJ.1;omega
      by_cases aH:k<m.au.length
      · have hd:=cA m.au k default aH
        have rK:=hm.ct _ (aC (d:=default) aH)
        generalize aR:m.au.getD k default=c at *
        rw[hd,mh] at hr
        obtain ⟨q1,q2,q3,q4⟩:=lj rK
        have hlen:=yL hm q4
        have ack:=Hp (m:=m) (plan:=plan) (fun x hx=>(nZ q4 x hx).2) 0
        have Bm:=yU (most:=c.most) (sum:=iU plan c.aS 0) (jY q3)
        have Es:=aaL (iU plan c.aS 0 - c.most) c.bL (by omega) (jY q3)
        rw[ach (jY q3)] at Es
        generalize Ib:iU plan c.aS 0=sum at *
        generalize hev:jk c.most c.bL sum=Bn at *
        have s8:=DQ (out.getD c.aV.toNat 0) Bn (aJ.get _) Bm
        generalize dy:out.getD c.aV.toNat 0=gx at *
        ((repeat' (first|refine Va @aR ?_|(refine Xi ?_ ?_<;>try intro ht)|exact Xx|fail)))
        refine aU (fun z:Nat × Int=>(⟨aw [(1,.tree 1 (ints plan)),(2,.ptr 0 0 0),(5,.ref 1 1 0 m.rules.toNat),(11,.lit (.int .i64 k)),(12,.ptr 2 0 0),(13,.lit (.int .i64 z.2)),(14,.lit (.int .i64 z.1))],[.var (ar m),.arr 1 (ints out),.var (aO c)]⟩:St))
          (fun z=>z.1≤c.aS.length∧0≤z.2∧z.2≤1000 * z.1∧iU plan (c.aS.drop z.1) z.2=sum) (fun z=>c.aS.length - z.1) (0,0) ⟨aM _,Int.le_refl _,by dsimp only;omega,Ib⟩ (Xv X0) ?_
        rintro ⟨j,n⟩ ⟨hj,dR,e9,eE⟩ eo bP bM
        dsimp only at hj dR e9 eE ⊢
        by_cases c9:j<c.aS.length
        · have n5:=cA c.aS j default c9
          have oe:=nZ q4 _ (aC (d:=default) c9)
          generalize pP:c.aS.getD j default=x at *
          rw[n5,iU] at eE
          obtain ⟨b1,b2,b3,b4⟩:=fZ.1 oe.1
          have sX:=oe.2
          generalize jZ:plan.getD x.cls.toNat 0=px at *
          ((repeat' (first|refine Va (X2 @pP @jZ) ?_|(refine Xi ?_ ?_<;>try intro ht)|exact Xx|fail)))
          · rw[if_pos (by assumption)] at eE
            exact bP _ (j+1,n+x.wt) ⟨by dsimp only;omega,by dsimp only;omega,by dsimp only;omega,eE⟩ (by dsimp only;omega) (Xs false [0,1,2] X0)
          · rw[if_neg (by assumption)] at eE
            exact bP _ (j+1,n) ⟨by dsimp only;omega,by dsimp only;omega,by dsimp only;omega,eE⟩ (by dsimp only;omega) (Xs false [0,1,2] X0)
        · ((repeat' (first|refine Va X0 ?_|(refine Xi ?_ ?_<;>try intro ht)|exact Xx|fail)))
          rw[cB (by omega),iU] at eE
          subst eE
          refine bM _ _ rfl ?_
          clear bP bM eo
          repeat (refine Xu ?_)
          refine Vc (X2 @dy @ints_set) (X2 Es s8) ?_
          refine aq _ (k+1,ef out c.aV Bn) ⟨by dsimp only;omega,aJ.add Bm,hr⟩ (by dsimp only;omega) ?_
          unfold ef
          rw[dy]
          exact Xs false [0,1] X0
      · ((repeat' (first|refine Va X0 ?_|(refine Xi ?_ ?_<;>try intro ht)|exact Xx|fail)))
        rw[cB (by omega),mh] at hr
        refine av _ _ rfl ?_;clear aq av Ql
        repeat (refine Xu ?_)
        refine Vb X0 ?_
        subst hr
        refine cP [] true (by decide) trivial (by decide) (by decide) ?_
        rw[← fT]
        first|exact .pure rfl|exact .eq rfl|exact .fz rfl (by simp only[Bc,Rc])
theorem Z6 (m:aj) (plan:List Int) (hb:MB m) (cq:plan.length<9223372036854775808):an Tryz.prog 54 [.agg (ar m),.tree 1 (ints plan)] [] (.bG [.lit (.int .i64 (nV m plan).1),.tree 1 (ints (nV m plan).2.1),.lit (.int .i64 (nV m plan).2.2)]) []:=by
  generalize ao:nV m plan=res
  unfold nV at ao
  have hval:=AH m hb
  have zj:=ace m plan cq
  by_cases hv:dz m=0
  rotate_left
  · rw[if_pos hv] at ao
    subst ao
    refine an.aD (fn:=Tryz.f54) 37 0 [.tmp 4,.tmp 5,.tmp 6] Tryz.func54 rfl rfl rfl rfl rfl (by simp) ?_
    ((repeat' (first|refine Vd X0 hval ?_|(refine Xi ?_ ?_<;>try intro ht)|exact Xx|fail)))
    all_goals first|exact cP [] true (by decide) trivial (by decide) (by decide) (DR (.pure rfl) aE.nil (.pure rfl))|(exfalso;omega)
  rw[if_neg (by omega)] at ao
  rw[hv] at hval
  have dM:=eB.1 hv
  by_cases Bo:oX m plan=true
  rotate_left
  · rw[if_pos (by simpa using Bo)] at ao
    rw[show oX m plan=false by simpa using Bo] at zj
    subst ao
    refine an.aD (fn:=Tryz.f54) 37 0 [.tmp 4,.tmp 5,.tmp 6] Tryz.func54 rfl rfl rfl rfl rfl (by simp) ?_
    ((repeat' (first|refine Vd X0 (X2 hval zj) ?_|(refine Xi ?_ ?_<;>try intro ht)|exact Xx|fail)))
    all_goals first|exact cP [] true (by decide) trivial (by decide) (by decide) (DR (.pure rfl) aE.nil (.pure rfl))|(exfalso;omega)
  rw[if_neg (by simp[Bo])] at ao
  rw[Bo] at zj
  have hp:=RD Bo
  have l8:=aci m plan dM hp
  have aJ:=DX dM plan
  have cd:=dM.im
  unfold yT at ao
  dsimp only at ao
  generalize gQ m plan=l at *
  have gP:=aJ.1
  generalize A6:iF l 0=aX at *
  subst ao
  refine an.aD (fn:=Tryz.f54) 37 0 [.tmp 4,.tmp 5,.tmp 6] Tryz.func54 rfl rfl rfl rfl rfl (by simp) ?_
  ((repeat' (first|refine Vd X0 (X3 hval zj l8) ?_|(refine Xi ?_ ?_<;>try intro ht)|exact Xx|fail)))
  refine aU (fun z:Nat × Int=>(⟨aw [(8,.tree 1 (ints l)),(9,.lit (.int .i64 z.2)),(10,.lit (.int .i64 z.1))],[.var (ar m)]⟩:St))
    (fun z=>z.1≤l.length∧bF z.2∧iF (l.drop z.1) z.2=aX) (fun z=>l.length - z.1) (0,0) ⟨aM _,by unfold bF;decide,A6⟩ (Xv X0) ?_
  rintro ⟨j,n⟩ ⟨hj,dR,eE⟩ Ql aq av
  dsimp only at hj dR eE ⊢
  by_cases c9:j<l.length
  · have n5:=cA l j 0 c9
    have Bp:=aJ.get j
    generalize pP:l.getD j 0=x at *
    rw[n5,iF] at eE
    ((repeat' (first|refine Vc @pP (DQ n x dR Bp) ?_|(refine Xi ?_ ?_<;>try intro ht)|exact Xx|fail)))
    exact aq _ (j+1,dw n x) ⟨by dsimp only;omega,xd dR Bp,eE⟩ (by dsimp only;omega) (Xv X0)
  · ((repeat' (first|refine Va X0 ?_|(refine Xi ?_ ?_<;>try intro ht)|exact Xx|fail)))
    rw[cB (by omega),iF] at eE
    refine av _ _ rfl ?_;clear aq av Ql
    repeat (refine Xu ?_)
    refine Vb X0 ?_
    exact aK rfl (by rw[eE])
end T

