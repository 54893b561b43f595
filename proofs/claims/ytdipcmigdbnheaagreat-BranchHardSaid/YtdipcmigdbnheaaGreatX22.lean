import Derived.Test.YtdipcmigdbnheaaGreatX14
import Derived.Test.YtdipcmigdbnheaaGreatX18
import Derived.Test.YtdipcmigdbnheaaGreatX19
import Derived.Test.YtdipcmigdbnheaaGreatX21
import Derived.Test.YtdipcmigdbnheaaGreatX15
set_option linter.unusedVariables false
set_option linter.unusedSimpArgs false
set_option linter.unnecessarySimpa false
set_option linter.unusedSectionVars false
set_option maxHeartbeats 64000000
set_option maxRecDepth 20000
open Nat renaming zero_le→aD,min_eq_left→pz,zero_add→eR
open Bool renaming true_and→g9
open List renaming drop_eq_nil_of_le→dw,replicate→bq,take_zero→lx,length_take→ez,take_of_length_le→dC
open Go Go.Am Go.Proofs
open Nat (reduceEqDiff reduceAdd reduceLeDiff reduceMul)
open Int (reduceNeg reduceLE reduceToNat)
namespace T
theorem adE (m:ah) (plan:List Int) (hp:plan.length<9223372036854775808):ao Tryz.prog 98 [.agg (ar m),.tree 1 (ints plan)] [] (.lit (.bool (qM m plan))) []:=by
  generalize an:qM m plan=res
  unfold qM at an
  refine ao.aF (fn:=Tryz.f98) 33 0 [.tmp 4] Tryz.func98 rfl rfl rfl rfl rfl (by simp) ?_
  by_cases hl:plan.length≠m.cls.length
  · rw[if_pos hl] at an
    ((repeat' (first|refine Vb X0 ?_|(refine Xi ?_ ?_<;>try intro ht)|exact Xx|fail)))
    all_goals first|exact aC rfl (by rw[an])|(exfalso;omega)
  rw[if_neg hl] at an
  ((repeat' (first|refine Vb X0 ?_|(refine Xi ?_ ?_<;>try intro ht)|exact Xx|fail)))
  refine aI (fun k:Nat=>(⟨av [(1,.tree 1 (ints plan)),(2,.ptr 0 0 0),(5,.lit (.int .i64 k))],[.var (ar m)]⟩:St)) (fun k=>k≤plan.length∧qL m k (plan.drop k)=res) (fun k=>plan.length - k) 0 ⟨aD _,an⟩ (Xv X0) ?_
  rintro k ⟨hk,hr⟩ Ql ak aq
  by_cases aP:k<plan.length
  · have hd:=dr plan k 0 aP
    generalize aO:plan.getD k 0=o at *
    rw[hd,qL] at hr
    have cT:=B8 m k o
    generalize eP m k o=ob at *
    ((repeat' (first|refine Vc @aO cT ?_|(refine V2 @aO ?_ ?_<;>try with_reducible intro hb)|(refine Xi ?_ ?_<;>try intro ht)|exact Xx|fail)))
    · have hrf:res=false:=by rw[← hr,decide_eq_false (p:=o = -1) (by omega),show ob=false by assumption];rfl
      repeat (refine Xu ?_)
      refine Vb X0 ?_
      exact aC rfl (by rw[hrf])
    · rw[show ob=true by assumption,Bool.or_true,g9] at hr
      exact ak _ (k+1) ⟨by omega,hr⟩ (by omega) (Xv X0)
    · rw[decide_eq_true (p:=o = -1) (by omega),Bool.true_or,g9] at hr
      exact ak _ (k+1) ⟨by omega,hr⟩ (by omega) (Xv X0)
  · ((repeat' (first|refine Va X0 ?_|(refine V2 X0 ?_ ?_<;>try with_reducible intro hb)|(refine Xi ?_ ?_<;>try intro ht)|exact Xx|fail)))
    rw[dw (by omega),qL] at hr
    refine aq _ _ rfl ?_;clear ak aq Ql
    repeat (refine Xu ?_)
    refine Vb X0 ?_
    exact aC rfl (by rw[hr])
theorem adG (m:ah) (p:Pr) (x y:Int) (dJ:fJ m p=true) (xT:∀ l∈m.cls,l.length≤24) (hx:0≤x∧x<(m.cls.getD p.fst.toNat default).length) (hy:0≤y∧y<(m.cls.getD p.snd.toNat default).length) :
    ao Tryz.prog 155 [.agg (ar m),.agg (aV p),.lit (.int .i64 x),.lit (.int .i64 y)] [] (.lit (.int .i64 (nB m p x y))) []:=by
  obtain ⟨q1,q2,q3,q4,q5⟩:=mj dJ
  have z4:=xT _ (az (l:=m.cls) (i:=p.fst.toNat) (d:=default) (by omega))
  have tx:=xT _ (az (l:=m.cls) (i:=p.snd.toNat) (d:=default) (by omega))
  have Je:=uC (x:=x) (y:=y) (a:=(m.cls.getD p.fst.toNat default).length) (b:=(m.cls.getD p.snd.toNat default).length) hx hy (by omega) (by omega)
  unfold nB
  rw[← q5] at Je
  generalize gF:m.cls.getD p.snd.toNat default=lb at *
  generalize uI:x * (lb.length:Int)=xm at *
  refine ao.aF (fn:=Tryz.f155) 24 0 [.tmp 8] Tryz.func155 rfl rfl rfl rfl rfl (by simp) ?_
  refine Vb (X2 @gF @uI) ?_
  exact aC rfl rfl
theorem Vq {most bE n:Int} (hp:bP bE):zT (n - most) bE=kP most bE n:=by
  unfold zT kP bP at *
  by_cases h:n≤most
  · rw[if_pos (by omega),if_pos h]
  · rw[if_neg (by omega),if_neg h]
    split
    · have:bE=1099511627776:=by omega
      subst this
      omega
    · rfl
theorem adH (m:ah) (plan:List Int) (hm:VM m) (hp:PM m plan):ao Tryz.prog 99 [.agg (ar m),.tree 1 (ints plan)] [] (.tree 1 (ints (nq m plan))) []:=by
  have qF:=hm.cls
  have B4:=hm.ae
  have U3:=hm.au
  have Vt:=hm.nx
  have dz:=hp.len
  unfold nq
  generalize h1:s8 m 0 plan (bq m.rules.toNat 0)=o1
  generalize h2:s9 m plan m.ae o1=o2
  generalize h3:ta plan m.au o2=o3
  have zb:=iX.rep Vt.1
  refine ao.aF (fn:=Tryz.f99) 178 0 [.tmp 4] Tryz.func99 rfl rfl rfl rfl rfl (by simp) ?_
  refine Vb X0 ?_
  refine aI (fun z:Nat × List Int=>(⟨av [(1,.tree 1 (ints plan)),(2,.ptr 0 0 0),(5,.ref 1 1 0 m.rules.toNat),(6,.lit (.int .i64 z.1))],[.var (ar m),.arr 1 (ints z.2)]⟩:St))
    (fun z=>z.1≤plan.length∧iX m.rules z.2∧s8 m z.1 (plan.drop z.1) z.2=o1) (fun z=>plan.length - z.1) (0,bq m.rules.toNat 0) ⟨aD _,zb,h1⟩ (Xv X0) ?_
  rintro ⟨k,out⟩ ⟨hk,aQ,hr⟩ Ql ak aq
  dsimp only at hk aQ hr ⊢
  have jh:out.length=m.rules.toNat:=by have:=aQ.1;omega
  by_cases aP:k<plan.length
  · have hd:=dr plan k 0 aP
    have eN:=hp.get k aP
    generalize aO:plan.getD k 0=o at *
    rw[hd,s8] at hr
    by_cases ho:o<0
    · rw[if_pos ho] at hr
      ((repeat' (first|refine Va @aO ?_|(refine Xi ?_ ?_<;>try intro ht)|exact Xx|fail)))
      exact ak _ (k+1,out) ⟨by dsimp only;omega,aQ,hr⟩ (by dsimp only;omega) (Xv X0)
    · rw[if_neg ho] at hr
      obtain ⟨b1,b2,b3,b4⟩:=iy.1 (eN.resolve_left (by omega))
      have hl:=az (l:=m.cls) (i:=k) (d:=default) (by omega)
      generalize fA:m.cls.getD k default=l at *
      rw[Int.toNat_natCast,fA] at b4
      have adI:=az (l:=l) (i:=o.toNat) (d:=default) (by omega)
      have gJ:=hm.nu l hl _ adI
      generalize jV:l.getD o.toNat default=op at *
      ((repeat' (first|refine Va (X3 @aO @fA @jV) ?_|(refine Xi ?_ ?_<;>try intro ht)|exact Xx|fail)))
      generalize lg:te op.ch out=adJ at hr
      have ca:=EL Vt.1 gJ
      refine aI (fun z:Nat × List Int=>(⟨av [(1,.tree 1 (ints plan)),(2,.ptr 0 0 0),(5,.ref 1 1 0 m.rules.toNat),(6,.lit (.int .i64 k)),(7,.tree 2 (rowsOf aG op.ch)),(8,.lit (.int .i64 z.1))],[.var (ar m),.arr 1 (ints z.2)]⟩:St))
        (fun z=>z.1≤op.ch.length∧iX m.rules z.2∧te (op.ch.drop z.1) z.2=adJ) (fun z=>op.ch.length - z.1) (0,out) ⟨aD _,aQ,lg⟩ (Xv X0) ?_
      rintro ⟨j,CH⟩ ⟨hj,o8,lq⟩ cP a5 a8
      dsimp only at hj o8 lq ⊢
      have ahu:CH.length=m.rules.toNat:=by have:=o8.1;omega
      by_cases dZ:j<op.ch.length
      · have uJ:=dr op.ch j default dZ
        have fY:=zC gJ _ (az (d:=default) dZ)
        generalize x9:op.ch.getD j default=c at *
        rw[uJ,te] at lq
        obtain ⟨qv,Vu⟩:=fY
        rw[iL,decide_eq_true_eq] at qv
        have qU:=B7 (CH.getD c.1.toNat 0) c.2 (o8.get _) (mg Vu)
        generalize dD:CH.getD c.1.toNat 0=gx at *
        ((repeat' (first|refine Vc (X3 @x9 @dD @ints_set) qU ?_|(refine Xi ?_ ?_<;>try intro ht)|exact Xx|fail)))
        refine a5 _ (j+1,eZ CH c.1 c.2) ⟨by dsimp only;omega,o8.add (mg Vu),lq⟩ (by dsimp only;omega) ?_
        unfold eZ
        rw[dD]
        exact Xs false [0,1] X0
      · ((repeat' (first|refine Va X0 ?_|(refine Xi ?_ ?_<;>try intro ht)|exact Xx|fail)))
        rw[dw (by omega),te] at lq
        subst lq
        refine a8 _ _ rfl ?_
        clear a5 a8 cP
        repeat (refine Xu ?_)
        refine Va X0 ?_
        exact ak _ (k+1,CH) ⟨by dsimp only;omega,o8,hr⟩ (by dsimp only;omega) (Xv X0)
  · ((repeat' (first|refine Va X0 ?_|(refine Xi ?_ ?_<;>try intro ht)|exact Xx|fail)))
    rw[dw (by omega),s8] at hr
    subst hr
    refine aq _ _ rfl ?_;clear ak aq Ql
    repeat (refine Xu ?_)
    refine Vb X0 ?_
    refine aI (fun z:Nat × List Int=>(⟨av [(1,.tree 1 (ints plan)),(2,.ptr 0 0 0),(5,.ref 1 1 0 m.rules.toNat),(9,.lit (.int .i64 z.1))],[.var (ar m),.arr 1 (ints z.2)]⟩:St))
      (fun z=>z.1≤m.ae.length∧iX m.rules z.2∧s9 m plan (m.ae.drop z.1) z.2=o2) (fun z=>m.ae.length - z.1) (0,out) ⟨aD _,aQ,h2⟩ (Xv X0) ?_
    clear hk aQ jh aP h2
    rintro ⟨k,out⟩ ⟨hk,aQ,hr⟩ Ql ak aq
    dsimp only at hk aQ hr ⊢
    have jh:out.length=m.rules.toNat:=by have:=aQ.1;omega
    by_cases aP:k<m.ae.length
    · have hd:=dr m.ae k default aP
      have dJ:=jn hm.pr _ (az (d:=default) aP)
      generalize aO:m.ae.getD k default=p at *
      rw[hd,s9] at hr
      obtain ⟨q1,q2,q3,q4,q5⟩:=mj dJ
      have g1:=hp.get p.fst.toNat (by omega)
      have g2:=hp.get p.snd.toNat (by omega)
      rw[Int.toNat_of_nonneg (by omega)] at g1 g2
      have Ch:=EN dJ (plan.getD p.fst.toNat 0) (plan.getD p.snd.toNat 0)
      have FC:0≤plan.getD p.fst.toNat 0→0≤plan.getD p.snd.toNat 0→ao Tryz.prog 155 [.agg (ar m),.agg (aV p),.lit (.int .i64 (plan.getD p.fst.toNat 0)),.lit (.int .i64 (plan.getD p.snd.toNat 0))] [] (.lit (.int .i64 (nB m p (plan.getD p.fst.toNat 0) (plan.getD p.snd.toNat 0)))) []:=fun h0 h0'=>by
        have a1:=(iy.1 (g1.resolve_left (by omega)))
        have a2:=(iy.1 (g2.resolve_left (by omega)))
        exact adG m p _ _ dJ hm.opt ⟨a1.2.2.1,a1.2.2.2⟩ ⟨a2.2.2.1,a2.2.2.2⟩
      generalize nB m p (plan.getD p.fst.toNat 0) (plan.getD p.snd.toNat 0)=en at *
      generalize hx:plan.getD p.fst.toNat 0=x at *
      generalize hy:plan.getD p.snd.toNat 0=y at *
      have qU:=B7 (out.getD p.cB.toNat 0) en (aQ.get _) Ch
      generalize dD:out.getD p.cB.toNat 0=gx at *
      by_cases nX:0≤x∧0≤y
      · rw[if_pos nX] at hr
        have FC:=FC nX.1 nX.2
        ((repeat' (first|refine Vc (X5 @aO @hx @hy @dD @ints_set) (X2 FC qU) ?_|(refine V2 (X5 @aO @hx @hy @dD @ints_set) ?_ ?_<;>try with_reducible intro hb)|(refine Xi ?_ ?_<;>try intro ht)|exact Xx|fail)))
        refine ak _ (k+1,eZ out p.cB en) ⟨by dsimp only;omega,aQ.add Ch,hr⟩ (by dsimp only;omega) ?_
        unfold eZ
        rw[dD]
        exact Xs false [0,1] X0
      · rw[if_neg nX] at hr
        clear FC
        ((repeat' (first|refine Va (X4 @aO @hx @hy @dD) ?_|(refine V2 (X4 @aO @hx @hy @dD) ?_ ?_<;>try with_reducible intro hb)|(refine Xi ?_ ?_<;>try intro ht)|exact Xx|fail)))
        all_goals exact ak _ (k+1,out) ⟨by dsimp only;omega,aQ,hr⟩ (by dsimp only;omega) (Xs false [0,1] X0)
    · ((repeat' (first|refine Va X0 ?_|(refine V2 X0 ?_ ?_<;>try with_reducible intro hb)|(refine Xi ?_ ?_<;>try intro ht)|exact Xx|fail)))
      rw[dw (by omega),s9] at hr
      subst hr
      refine aq _ _ rfl ?_;clear ak aq Ql
      repeat (refine Xu ?_)
      refine Vb X0 ?_
      refine aI (fun z:Nat × List Int=>(⟨av [(1,.tree 1 (ints plan)),(2,.ptr 0 0 0),(5,.ref 1 1 0 m.rules.toNat),(11,.lit (.int .i64 z.1))],[.var (ar m),.arr 1 (ints z.2)]⟩:St))
        (fun z=>z.1≤m.au.length∧iX m.rules z.2∧ta plan (m.au.drop z.1) z.2=o3) (fun z=>m.au.length - z.1) (0,out) ⟨aD _,aQ,h3⟩ (Xv X0) ?_
      clear hk aQ jh aP h3
      rintro ⟨k,out⟩ ⟨hk,aQ,hr⟩ Ql ak aq
      dsimp only at hk aQ hr ⊢
      have jh:out.length=m.rules.toNat:=by have:=aQ.1;omega
      by_cases aP:k<m.au.length
      · have hd:=dr m.au k default aP
        have Fl:=hm.ct _ (az (d:=default) aP)
        generalize aO:m.au.getD k default=c at *
        rw[hd,ta] at hr
        obtain ⟨q1,q2,q3,q4⟩:=nw Fl
        have hlen:=BO hm q4
        have ahw:=Pn (m:=m) (plan:=plan) (fun x hx=>(o7 q4 x hx).2) 0
        have Vv:=EO (most:=c.most) (sum:=lK plan c.aK 0) (mg q3)
        have Vw:=TK (lK plan c.aK 0 - c.most) c.bE (by omega) (mg q3)
        rw[Vq (mg q3)] at Vw
        generalize adK:lK plan c.aK 0=sum at *
        generalize hev:kP c.most c.bE sum=Vx at *
        have qU:=B7 (out.getD c.cB.toNat 0) Vx (aQ.get _) Vv
        generalize dD:out.getD c.cB.toNat 0=gx at *
        ((repeat' (first|refine Va @aO ?_|(refine Xi ?_ ?_<;>try intro ht)|exact Xx|fail)))
        refine aI (fun z:Nat × Int=>(⟨av [(1,.tree 1 (ints plan)),(2,.ptr 0 0 0),(5,.ref 1 1 0 m.rules.toNat),(11,.lit (.int .i64 k)),(12,.ptr 2 0 0),(13,.lit (.int .i64 z.2)),(14,.lit (.int .i64 z.1))],[.var (ar m),.arr 1 (ints out),.var (aU c)]⟩:St))
          (fun z=>z.1≤c.aK.length∧0≤z.2∧z.2≤1000 * z.1∧lK plan (c.aK.drop z.1) z.2=sum) (fun z=>c.aK.length - z.1) (0,0) ⟨aD _,Int.le_refl _,by dsimp only;omega,adK⟩ (Xv X0) ?_
        rintro ⟨j,n⟩ ⟨hj,cV,eM,lq⟩ cP a5 a8
        dsimp only at hj cV eM lq ⊢
        by_cases dZ:j<c.aK.length
        · have uJ:=dr c.aK j default dZ
          have nF:=o7 q4 _ (az (d:=default) dZ)
          generalize x9:c.aK.getD j default=x at *
          rw[uJ,lK] at lq
          obtain ⟨b1,b2,b3,b4⟩:=iy.1 nF.1
          have hlw:=nF.2
          generalize sh:plan.getD x.cls.toNat 0=px at *
          ((repeat' (first|refine Va (X2 @x9 @sh) ?_|(refine Xi ?_ ?_<;>try intro ht)|exact Xx|fail)))
          · rw[if_pos (by assumption)] at lq
            exact a5 _ (j+1,n+x.wt) ⟨by dsimp only;omega,by dsimp only;omega,by dsimp only;omega,lq⟩ (by dsimp only;omega) (Xs false [0,1,2] X0)
          · rw[if_neg (by assumption)] at lq
            exact a5 _ (j+1,n) ⟨by dsimp only;omega,by dsimp only;omega,by dsimp only;omega,lq⟩ (by dsimp only;omega) (Xs false [0,1,2] X0)
        · ((repeat' (first|refine Va X0 ?_|(refine Xi ?_ ?_<;>try intro ht)|exact Xx|fail)))
          rw[dw (by omega),lK] at lq
          subst lq
          refine a8 _ _ rfl ?_
          clear a5 a8 cP
          repeat (refine Xu ?_)
          refine Vc (X2 @dD @ints_set) (X2 Vw qU) ?_
          refine ak _ (k+1,eZ out c.cB Vx) ⟨by dsimp only;omega,aQ.add Vv,hr⟩ (by dsimp only;omega) ?_
          unfold eZ
          rw[dD]
          exact Xs false [0,1] X0
      · ((repeat' (first|refine Va X0 ?_|(refine Xi ?_ ?_<;>try intro ht)|exact Xx|fail)))
        rw[dw (by omega),ta] at hr
        refine aq _ _ rfl ?_;clear ak aq Ql
        repeat (refine Xu ?_)
        refine Vb X0 ?_
        subst hr
        refine eA [] true (by decide) trivial (by decide) (by decide) ?_
        rw[← jh]
        first|exact .pure rfl|exact .eq rfl|exact .fz rfl (by simp only[Bc,Rc])
theorem NN (m:ah) (plan:List Int) (hb:MB m) (dz:plan.length<9223372036854775808):ao Tryz.prog 54 [.agg (ar m),.tree 1 (ints plan)] [] (.bL [.lit (.int .i64 (xL m plan).1),.tree 1 (ints (xL m plan).2.1),.lit (.int .i64 (xL m plan).2.2)]) []:=by
  generalize an:xL m plan=res
  unfold xL at an
  have hval:=wg m hb
  have z7:=adE m plan dz
  by_cases hv:dI m=0
  rotate_left
  · rw[if_pos hv] at an
    subst an
    refine ao.aF (fn:=Tryz.f54) 37 0 [.tmp 4,.tmp 5,.tmp 6] Tryz.func54 rfl rfl rfl rfl rfl (by simp) ?_
    ((repeat' (first|refine Vd X0 hval ?_|(refine Xi ?_ ?_<;>try intro ht)|exact Xx|fail)))
    all_goals first|exact eA [] true (by decide) trivial (by decide) (by decide) (Pg (.pure rfl) aN.nil (.pure rfl))|(exfalso;omega)
  rw[if_neg (by omega)] at an
  rw[hv] at hval
  have b9:=iJ.1 hv
  by_cases CJ:qM m plan=true
  rotate_left
  · rw[if_pos (by simpa using CJ)] at an
    rw[show qM m plan=false by simpa using CJ] at z7
    subst an
    refine ao.aF (fn:=Tryz.f54) 37 0 [.tmp 4,.tmp 5,.tmp 6] Tryz.func54 rfl rfl rfl rfl rfl (by simp) ?_
    ((repeat' (first|refine Vd X0 (X2 hval z7) ?_|(refine Xi ?_ ?_<;>try intro ht)|exact Xx|fail)))
    all_goals first|exact eA [] true (by decide) trivial (by decide) (by decide) (Pg (.pure rfl) aN.nil (.pure rfl))|(exfalso;omega)
  rw[if_neg (by simp[CJ])] at an
  rw[CJ] at z7
  have hp:=abe CJ
  have Jt:=adH m plan b9 hp
  have aQ:=O3 b9 plan
  have eV:=b9.nx
  unfold ID at an
  dsimp only at an
  generalize nq m plan=l at *
  have fA:=aQ.1
  generalize Bn:ny l 0=bO at *
  subst an
  refine ao.aF (fn:=Tryz.f54) 37 0 [.tmp 4,.tmp 5,.tmp 6] Tryz.func54 rfl rfl rfl rfl rfl (by simp) ?_
  ((repeat' (first|refine Vd X0 (X3 hval z7 Jt) ?_|(refine Xi ?_ ?_<;>try intro ht)|exact Xx|fail)))
  refine aI (fun z:Nat × Int=>(⟨av [(8,.tree 1 (ints l)),(9,.lit (.int .i64 z.2)),(10,.lit (.int .i64 z.1))],[.var (ar m)]⟩:St))
    (fun z=>z.1≤l.length∧bP z.2∧ny (l.drop z.1) z.2=bO) (fun z=>l.length - z.1) (0,0) ⟨aD _,by unfold bP;decide,Bn⟩ (Xv X0) ?_
  rintro ⟨j,n⟩ ⟨hj,cV,lq⟩ Ql ak aq
  dsimp only at hj cV lq ⊢
  by_cases dZ:j<l.length
  · have uJ:=dr l j 0 dZ
    have Vy:=aQ.get j
    generalize x9:l.getD j 0=x at *
    rw[uJ,ny] at lq
    ((repeat' (first|refine Vc @x9 (B7 n x cV Vy) ?_|(refine Xi ?_ ?_<;>try intro ht)|exact Xx|fail)))
    exact ak _ (j+1,dQ n x) ⟨by dsimp only;omega,zD cV Vy,lq⟩ (by dsimp only;omega) (Xv X0)
  · ((repeat' (first|refine Va X0 ?_|(refine Xi ?_ ?_<;>try intro ht)|exact Xx|fail)))
    rw[dw (by omega),ny] at lq
    refine aq _ _ rfl ?_;clear ak aq Ql
    repeat (refine Xu ?_)
    refine Vb X0 ?_
    exact aC rfl (by rw[lq])
theorem adm (m:ah) (left:List (List Bool)) (hm:MB m) (hb:BB left):ao Tryz.prog 148 [.agg (ar m),.tree 1 (rowsOf aE left)] [] (.lit (.bool (decide (dN m left)))) []:=by
  have qF:=hm.cls
  have oB:=hb.1
  generalize an:decide (dN m left)=res
  refine ao.aF (fn:=Tryz.f148) 30 0 [.tmp 4] Tryz.func148 rfl rfl rfl rfl rfl (by simp) ?_
  by_cases hl:left.length=m.cls.length
  rotate_left
  · rw[decide_eq_false (fun h:dN m left=>hl h.1)] at an
    ((repeat' (first|refine Va X0 ?_|(refine Xi ?_ ?_<;>try intro ht)|exact Xx|fail)))
    ((skip))
    exact aC rfl (by rw[← an])
  ((repeat' (first|refine Va X0 ?_|(refine Xi ?_ ?_<;>try intro ht)|exact Xx|fail)))
  refine aI (fun k:Nat=>(⟨av [(1,.tree 1 (rowsOf aE left)),(2,.ptr 0 0 0),(5,.lit (.int .i64 k))],[.var (ar m)]⟩:St)) (fun k=>k≤left.length∧∀ i,i<k→(left.getD i default).length=(m.cls.getD i default).length) (fun k=>left.length - k) 0 ⟨aD _,by omega⟩ (Xv X0) ?_
  rintro k ⟨hk,hr⟩ Ql ak aq
  by_cases aP:k<left.length
  · have h1:=hm.opt _ (az (l:=m.cls) (i:=k) (d:=default) (by omega))
    have h2:=hb.2 _ (az (d:=default) aP)
    generalize Aa:m.cls.getD k default=a at *
    generalize oB:left.getD k default=b at *
    by_cases lp:b.length=a.length
    · ((repeat' (first|refine Va (X4 @Aa @oB @bn.eq_1 @aE.eq_1) ?_|(refine Xi ?_ ?_<;>try intro ht)|exact Xx|fail)))
      exact ak _ (k+1) ⟨by omega,fun i hi=>by
        by_cases e:i=k
        · subst e;rw[oB,Aa];exact lp
        · exact hr i (by omega)⟩ (by omega) (Xv X0)
    · rw[decide_eq_false (fun h:dN m left=>lp (by have:=h.2 k (by omega);rw[oB,Aa] at this;exact this))] at an
      ((repeat' (first|refine Va (X4 @Aa @oB @bn.eq_1 @aE.eq_1) ?_|(refine Xi ?_ ?_<;>try intro ht)|exact Xx|fail)))
      repeat (refine Xu ?_)
      refine Vb X0 ?_
      exact aC rfl (by rw[← an])
  · rw[decide_eq_true (show dN m left from ⟨hl,fun i hi=>hr i (by omega)⟩)] at an
    ((repeat' (first|refine Va X0 ?_|(refine Xi ?_ ?_<;>try intro ht)|exact Xx|fail)))
    refine aq _ _ rfl ?_;clear ak aq Ql
    repeat (refine Xu ?_)
    refine Vb X0 ?_
    exact aC rfl (by rw[← an])
theorem Vp {m:ah} {left:List (List Bool)} (hm:VM m) (hf:dN m left) {c:Ct} (hc:c∈m.au):(∀ x∈c.aK,(0≤x.cls∧x.cls<left.length)∧1≤x.wt∧x.wt≤1000)∧0≤c.most∧bP c.bE∧c.aK.length≤1000000:=by
  obtain ⟨_,h2,h3,h4⟩:=nw (hm.ct c hc)
  refine⟨fun x hx=>?_,h2.1,mg h3,?_⟩
  · obtain ⟨h5,h6⟩:=o7 h4 x hx
    obtain ⟨a,b,_,_⟩:=iy.1 h5
    have:=hf.1
    exact⟨⟨a,by omega⟩,h6⟩
  · have:=BO hm h4;omega
theorem adD (m:ah) (left:List (List Bool)) (c:Ct) (hm:VM m) (hf:dN m left) (hc:c∈m.au):ao Tryz.prog 154 [.agg (ar m),.tree 1 (rowsOf aE left),.agg (aU c)] [] (.lit (.int .i64 (jR c.aK 0 left 0 - c.most))) []:=by
  obtain ⟨q1,q2,q3,q4⟩:=Vp hm hf hc
  have JF:∀ x∈c.aK,1≤x.wt∧x.wt≤1000:=fun x hx=>(q1 x hx).2
  have qF:=hm.cls
  have hl:=hf.1
  have ahz:=(nw (hm.ct c hc)).2.1
  refine ao.aF (fn:=Tryz.f154) 85 0 [.tmp 6] Tryz.func154 rfl rfl rfl rfl rfl (by simp) ?_
  refine Va X0 ?_
  refine aI (fun i:Nat=>(⟨av [(1,.tree 1 (rowsOf aE left)),(3,.ptr 0 0 0),(5,.ptr 1 0 0),(7,.lit (.int .i64 (jR c.aK 0 (left.take i) 0))),(8,.lit (.int .i64 i))],[.var (ar m),.var (aU c)]⟩:St)) (fun i=>i≤left.length) (fun i=>left.length - i) 0 (aD _) (Xv (X2 @lx.{0} (X2 @jR.eq_1 @jR.eq_2))) ?_
  rintro i hi Ql ak aq
  have yV:=Ix JF (left.take i)
  rw[ez] at yV
  by_cases hi':i<left.length
  · have ca:(left.getD i default).length=(m.cls.getD i default).length:=hf.2 i hi'
    have adL:=hm.opt _ (az (l:=m.cls) (i:=i) (d:=default) (by omega))
    have cS:=eu hi'
    have xY:=OD c.aK (left.getD i default) (left.take i) 0 0
    rw[← cS,ez,pz (by omega),eR] at xY
    generalize jR c.aK 0 (left.take i) 0=n at *
    generalize Fg:left.getD i default=row at *
    generalize cT:m.cls.getD i default=l at *
    ((repeat' (first|refine Va X0 ?_|(refine Xi ?_ ?_<;>try intro ht)|exact Xx|fail)))
    refine aI (fun o:Nat=>(⟨av [(1,.tree 1 (rowsOf aE left)),(3,.ptr 0 0 0),(5,.ptr 1 0 0),(7,.lit (.int .i64 n)),(8,.lit (.int .i64 i)),(9,.lit (.int .i64 (max (ew c.aK i 0 (row.take o) (-1)) 0))),(10,.lit (.bool (decide (0≤ew c.aK i 0 (row.take o) (-1))))),(11,.lit (.int .i64 o))],[.var (ar m),.var (aU c)]⟩:St)) (fun o=>o≤row.length) (fun o=>row.length - o) 0 (aD _) (Xv (X2 @lx.{0} (X2 @ew.eq_1 @ew.eq_2))) ?_
    rintro o ho cP a5 a8
    have hb:=Iv JF i (row.take o) 0 (-1) (by omega)
    by_cases cf:o<row.length
    · have km:ew c.aK i 0 (row.take (o+1)) (-1)=if row.getD o false=true∧(ew c.aK i 0 (row.take o) (-1)<0∨fQ c.aK i o 0<ew c.aK i 0 (row.take o) (-1)) then fQ c.aK i o 0 else ew c.aK i 0 (row.take o) (-1):=by
        rw[List.take_succ_eq_append_getElem cf,Pb,List.getD_eq_getElem?_getD,List.getElem?_eq_getElem cf,ez,pz (by omega),eR];rfl
      have hw:=xI JF i o 0 (by omega)
      generalize ew c.aK i 0 (row.take o) (-1)=b at *
      generalize Vz:row.getD o false=is at *
      cases is with
      | false =>
        rw[if_neg (by simp)] at km
        ((repeat' (first|refine Va (X5 @cT @Fg @Vz @bn.eq_1 @aE.eq_1) ?_|(refine Xi ?_ ?_<;>try intro ht)|exact Xx|fail)))
        exact a5 _ (o+1) (by omega) (by omega) (by simp only[km];exact Xv X0)
      | true =>
        simp only[eq_self,true_and] at km
        ((repeat' (first|refine Va (X5 @cT @Fg @Vz @bn.eq_1 @aE.eq_1) ?_|(refine Xi ?_ ?_<;>try intro ht)|exact Xx|fail)))
        refine aI (fun k:Nat=>(⟨av [(1,.tree 1 (rowsOf aE left)),(3,.ptr 0 0 0),(5,.ptr 1 0 0),(7,.lit (.int .i64 n)),(8,.lit (.int .i64 i)),(9,.lit (.int .i64 (max b 0))),(10,.lit (.bool (decide (0≤b)))),(11,.lit (.int .i64 o)),(12,.lit (.int .i64 (fQ (c.aK.take k) i o 0))),(13,.lit (.int .i64 k))],[.var (ar m),.var (aU c)]⟩:St)) (fun k=>k≤c.aK.length) (fun k=>c.aK.length - k) 0 (aD _) (Xv (X2 @lx.{0} (X2 @fQ.eq_1 @fQ.eq_2))) ?_
        rintro k hk lH fl eX
        by_cases aP:k<c.aK.length
        · have FD:=eu aP
          have bA:=q1 _ (az (d:=default) aP)
          have mI:=O5 (c.aK.take k) (c.aK.getD k default) i o 0
          rw[← FD] at mI
          generalize fQ (c.aK.take k) i o 0=w at *
          generalize ur:c.aK.getD k default=x at *
          ((repeat' (first|refine Va (X2 @ur @gG.eq_1) ?_|(refine V2 (X2 @ur @gG.eq_1) ?_ ?_<;>try with_reducible intro hb)|(refine Xi ?_ ?_<;>try intro ht)|exact Xx|fail)))
          all_goals
            refine fl _ (k+1) (by omega) (by omega) ?_
            simp only[mI]
            first
              | rw[if_pos (by omega)]
              | rw[if_neg (by omega)]
            exact Xv X0
        · ((repeat' (first|refine Va X0 ?_|(refine V2 X0 ?_ ?_<;>try with_reducible intro hb)|(refine Xi ?_ ?_<;>try intro ht)|exact Xx|fail)))
          rw[dC (by omega)]
          refine eX _ _ rfl ?_
          clear fl eX lH
          repeat (refine Xu ?_)
          generalize fQ c.aK i o 0=w at *
          ((repeat' (first|refine Va X0 ?_|(refine V2 X0 ?_ ?_<;>try with_reducible intro hb)|(refine Xi ?_ ?_<;>try intro ht)|exact Xx|fail)))
          all_goals
            refine a5 _ (o+1) (by omega) (by omega) ?_
            simp only[km]
            first
              | (rw[if_pos (by omega)];have e1:max w 0=w:=by omega
                 have e2:decide (0≤w)=true:=decide_eq_true (by omega)
                 simp only[e1,e2];exact Xv X0)
              | (rw[if_neg (by omega)];exact Xv X0)
    · rw[dC (by omega)] at hb
      have j6:mP c.aK i row=max (ew c.aK i 0 row (-1)) 0:=rfl
      ((repeat' (first|refine Va (X3 @cT @bn.eq_1 (dC (show row.length≤o by omega))) ?_|(refine Xi ?_ ?_<;>try intro ht)|exact Xx|fail)))
      refine a8 _ _ rfl ?_
      clear a5 a8 cP
      repeat (refine Xu ?_)
      refine Va X0 ?_
      exact ak _ (i+1) (by omega) (by omega) (by simp only[xY,j6];exact Xv X0)
  · ((repeat' (first|refine Va (dC (show left.length≤i by omega)) ?_|(refine Xi ?_ ?_<;>try intro ht)|exact Xx|fail)))
    refine aq _ _ rfl ?_;clear ak aq Ql
    repeat (refine Xu ?_)
    rw[dC (by omega)] at yV
    repeat' (first|(refine Xr X0 ?_;intro K hK)|(refine hK _ ?_;clear hK K)|refine Xz ?_|(refine Xe ?_;first|refine aC rfl ?_|refine Xl ?_ ?_)|refine Xd ?_ ?_|exact Xx|fail)
theorem VA (x:Int):ao Tryz.prog 174 [.lit (.int .i64 x)] [] (.agg (bw (fI x))) []:=by
  refine ao.aF (fn:=Tryz.f174) 7 0 [.cell 2 230] Tryz.func174 rfl rfl rfl rfl rfl (by simp) ?_
  refine Vb X0 ?_
  simp (disch:=omega) only[Ac,↓Pc,simprocAttr,bw,fI,ee]
  exact aC rfl rfl
end T

