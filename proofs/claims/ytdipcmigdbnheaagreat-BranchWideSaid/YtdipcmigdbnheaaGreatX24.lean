import Derived.Test.YtdipcmigdbnheaaGreatX21
import Derived.Test.YtdipcmigdbnheaaGreatX14
import Derived.Test.YtdipcmigdbnheaaGreatX12
set_option linter.unusedVariables false
set_option linter.unusedSimpArgs false
set_option linter.unnecessarySimpa false
set_option linter.unusedSectionVars false
set_option maxHeartbeats 64000000
set_option maxRecDepth 20000
open Bool renaming and_eq_true→a7,not_false→kl,not_true→hU
open Nat renaming mul_le_mul→D6,zero_le→aH,sub_self→iz,add_zero→gU
open List renaming mem_append→dh,mem_singleton→ee,take_of_length_le→dN,take_zero→lW,length_map→eD,append_assoc→dj,length_append→bU,length_set→bF,getElem?_eq_some_iff→aY,map_append→eT,nodup_append→rZ,map_nil→lV,mem_cons→bW,not_mem_nil→lX,length_take→eX,set_set→r8,range_zero→L1,foldl_nil→xS
open Go Go.Am Go.Proofs
open Nat (reduceEqDiff reduceAdd reduceLeDiff reduceMul)
open Int (reduceNeg reduceLE reduceToNat)
namespace T
theorem VQ {m:ae} (hm:VM m) {c:List cB} (hc:c∈m.cls) {o:cB} (ho:o∈c):o.ch.length≤100:=by
  have h:=hm.mf c hc o ho
  have hr:=hm.mP
  cases ej:o.ch with
  | nil=>simp
  | cons x r =>
    rw[ej,eA] at h
    simp only[a7,decide_eq_true_eq,iP] at h
    rcases JE h.2 with rfl | h2
    · simp
    · simp only[List.length_cons];omega
theorem Dd {m:ae} {p:Pr} (hp:eG m p=true) (hm:VM m):p.aP.length≤576:=by
  unfold eG at hp
  simp only[a7,decide_eq_true_eq] at hp
  obtain ⟨⟨_,h1,h2,h3,h4⟩,_⟩:=hp
  have a:=hm.opt _ (az (l:=m.cls) (i:=p.fst.toNat) (d:=default) (by omega))
  have b:=hm.opt _ (az (l:=m.cls) (i:=p.snd.toNat) (d:=default) (by omega))
  have:=D6 a b
  have e:(p.aP.length:Int)=((m.cls.getD p.fst.toNat default).length * (m.cls.getD p.snd.toNat default).length:Nat):=by rw[h4];simp
  omega
theorem Kb {m:ae} {p:Pr} (hp:eG m p=true):0≤p.fst∧p.fst<p.snd∧p.snd<m.cls.length∧(p.aP.length:Int)=(m.cls.getD p.fst.toNat default).length * (m.cls.getD p.snd.toNat default).length:=by
  unfold eG at hp
  simp only[a7,decide_eq_true_eq] at hp
  exact hp.1.2
theorem V3 {a k c n:Int} (ha:0≤a∧a<n) (hk:0≤k∧k<c) (hc:c≤24) (hn:n≤24):0≤a * c∧a * c≤576∧0≤a * c+k∧a * c+k<n * c:=by
  have h1:0≤a * c:=Int.mul_nonneg ha.1 (by omega)
  have h2:(a+1) * c≤n * c:=Int.mul_le_mul_of_nonneg_right (by omega) (by omega)
  rw[Int.add_mul] at h2
  have h3:n * c≤24 * 24:=Int.mul_le_mul hn hc (by omega) (by omega)
  omega
theorem aez (m:ae) (left:List (List Bool)) (l:List Mv) (hm:MB m) (hb:BB left) (hl:l.length<9223372036854775808):ao Tryz.prog 97 [.agg (au m),.tree 1 (rowsOf aK left),.tree 4 (rowsOf fZ l)] [] (.bM [.lit (.int .i64 (AH m left l).1),.lit (.int .i64 (AH m left l).2)]) []:=by
  have h1:=yD m hm
  have h2:=aeA m left hm hb
  generalize aj:AH m left l=res
  unfold AH Fs at aj
  refine ao.aD (fn:=Tryz.f97) 342 0 [.tmp 6,.tmp 7] Tryz.func97 rfl rfl rfl rfl rfl (by simp) ?_
  by_cases hv:dW m=0
  rotate_left
  · rw[if_pos (c:=dW m≠0) hv,if_pos hv] at aj
    generalize dW m=e at *
    subst aj
    ((repeat' (first|refine Vd X0 (X2 h1 h2) ?_|(refine Xi ?_ ?_<;>try intro ht)|exact Xx|fail)))
    all_goals exact aE rfl rfl
  rw[if_neg (c:=dW m≠0) (by rw[hv];simp)] at aj
  rw[hv] at h1
  by_cases hf:dK m left
  rotate_left
  · rw[if_neg hf,if_pos (by simp)] at aj
    rw[decide_eq_false hf] at h2
    subst aj
    ((repeat' (first|refine Vd (X2 @bne_self_eq_false.{0} @kl) (X2 h1 h2) ?_|(refine Xi ?_ ?_<;>try intro ht)|exact Xx|fail)))
    all_goals exact aE rfl rfl
  rw[if_pos hf,if_neg (by simp)] at aj
  rw[decide_eq_true hf] at h2
  have cu:=iu.1 hv
  have nX:=cu.cls
  have Db:=cu.ah
  have B4:=cu.av
  unfold iw at aj
  by_cases hlen:2000<l.length
  · rw[if_pos hlen] at aj
    subst aj
    ((repeat' (first|refine Vd (X2 @bne_self_eq_false.{0} @hU) (X2 h1 h2) ?_|(refine Xi ?_ ?_<;>try intro ht)|exact Xx|fail)))
    all_goals exact aE rfl rfl
  rw[if_neg hlen] at aj
  ((repeat' (first|refine Vd (X2 @bne_self_eq_false.{0} @hU) (X2 h1 h2) ?_|(refine Xi ?_ ?_<;>try intro ht)|exact Xx|fail)))
  refine aG (fun i:Nat=>(⟨aw [(1,.tree 1 (rowsOf aK left)),(2,.tree 4 (rowsOf fZ l)),(3,.ptr 0 0 0),(9,.lit (.int .i64 i))],[.var (au m)]⟩:St)) (fun i=>i≤l.length∧∀ x∈l.take i,lk m x=true) (fun i=>l.length - i) 0 ⟨aH _,by simp⟩ (Xv X0) ?_
  rintro i ⟨hi,fJ⟩ Ql ak aq
  by_cases ax:i<l.length
  · have wP:=aeB m (l.getD i default) cu
    have ef:=eU ax
    have cd:=az (d:=default) ax
    generalize bS:l.getD i default=x at *
    by_cases hx:lk m x=true
    · rw[hx] at wP
      ((repeat' (first|refine Vc (X3 @bS @fZ.eq_1 @hU) wP ?_|(refine Xi ?_ ?_<;>try intro ht)|exact Xx|fail)))
      exact ak _ (i+1) ⟨by omega,fun y hy=>by
        rw[ef] at hy
        rcases dh.1 hy with hy | hy
        · exact fJ y hy
        · simp only[ee] at hy;subst hy;exact hx⟩ (by omega) (Xv X0)
    · have cP:lk m x=false:=by simpa using hx
      rw[cP] at wP
      rw[if_pos (by rw[List.all_eq_false];exact⟨x,cd,hx⟩)] at aj
      subst aj
      ((repeat' (first|refine Vc (X3 @bS @fZ.eq_1 @kl) wP ?_|(refine Xi ?_ ?_<;>try intro ht)|exact Xx|fail)))
      repeat (refine Xu ?_)
      refine Vb X0 ?_
      exact aE rfl rfl
  rw[dN (by omega)] at fJ
  rw[if_neg (by rw[Bool.not_eq_false];exact List.all_eq_true.2 fJ)] at aj
  ((repeat' (first|refine Va X0 ?_|(refine Xi ?_ ?_<;>try intro ht)|exact Xx|fail)))
  refine aq _ _ rfl ?_;clear ak aq Ql
  repeat (refine Xu ?_)
  refine Va X0 ?_
  have ho0:([.var (au m)]:List Ob)[0]?=some (.var (au m)):=rfl
  refine aG (fun z:Nat × List Ob × Nat × List (Nat × Nat)=>(⟨aw [(1,.tree 1 (rowsOf aK left)),(2,.tree 4 (rowsOf fZ l)),(3,.ptr 0 0 0),(10,.ref z.2.2.1 1 0 z.2.2.2.length),(11,.lit (.slice none 0 0)),(12,.lit (.int .i64 z.1))],z.2.1⟩:St))
    (fun z=>z.1≤m.cls.length∧z.2.2.2.length=z.1∧z.2.1[0]?=some (.var (au m))∧z.2.1[z.2.2.1]?=some (.arr 1 (rowsOf cG z.2.2.2))∧RI iH z.2.1 z.2.2.2 ((S0 m).take z.1)∧(z.2.2.2.map (·.1)).Nodup)
    (fun z=>m.cls.length - z.1) (0,[.var (au m),.arr 1 []],1,[]) ⟨aH _,rfl,rfl,rfl,by rw[lW];exact RI.nil,by simp⟩ ?_ ?_
  · refine aQ.trans (aQ.nil 10 1 (by simp only[Kc,simprocAttr]) (by decide)) ?_
    exact Xv X0
  clear hi ax ho0
  rintro ⟨i,os,ai,D⟩ ⟨hi,hD,f0,fa,hR,bC⟩ Ql ak aq
  dsimp only at hi hD f0 fa hR bC ⊢
  have e0:=bz f0
  have ea:=bz fa
  have sa:=ke fa
  by_cases ax:i<m.cls.length
  · have gJ:=az (d:=default) ax
    have sW:=cu.opt _ gJ
    have aeD:=aeE (m.cls.getD i default) m.rules sW (cu.mf _ gJ) (fun o ho=>VQ cu gJ ho)
    have Kf:=V4 (gb (m.cls.getD i default)) (by unfold gb;rw[eD];omega)
    generalize aJ:m.cls.getD i default=c at *
    ((repeat' (first|refine Vc (X5 @f0 @fa @e0 @ea (X3 @aJ @bA.eq_1 @gQ)) aeD ?_|(refine Xi ?_ ?_<;>try intro ht)|exact Xx|fail))<;>try with_reducible intro K hK)
    refine ig [] Kf (by simp) trivial ⟨.pure rfl,trivial⟩ ?_
    have Kg:(0:Nat)≠ai:=fun e=>by rw[← e,f0] at fa;cases fa
    obtain ⟨g1,g2,g3,g4⟩:=RI.step fa (by simp) hR bC (dt (gb c)) (.arr 1 [[.ref os.length 2 0 (dt (gb c)).length]]) (.arr 1 (rowsOf cG (D++[(os.length,(dt (gb c)).length)])))
    have ef:(S0 m).take (i+1)=(S0 m).take i++[dt (gb c)]:=by
      rw[eU (by unfold S0;rw[eD];exact ax)]
      unfold S0;rw[kH _ _ _ ax,aJ]
    ((try revert hK K);((refine Va (X5 @f0 @fa @e0 @ea (X5 @sa @aJ @bA.eq_1 @gQ (X5 @dj.{0} @iz @gU @FE (X2 @bU.{0} @bF.{0})))) ?_)))
    refine ak _ (i+1,_,os.length+2,D++[(os.length,(dt (gb c)).length)]) ⟨by dsimp only;omega,by simp;omega,g4 _ _ f0 Kg,g1,by rw[ef];exact g2,g3⟩ (by dsimp only;omega) ?_
    exact Xv X0
  rw[dN (by unfold S0;rw[eD];omega)] at hR
  have zb:D.length=m.cls.length:=by omega
  ((repeat' (first|refine Va (X4 @f0 @fa @e0 @ea) ?_|(refine Xi ?_ ?_<;>try intro ht)|exact Xx|fail)))
  refine aq _ _ rfl ?_;clear ak aq Ql
  repeat (refine Xu ?_)
  refine Va (X2 @f0 @fa) ?_
  clear hi ax hD e0 ea sa
  have V5:(os++[Ob.arr 1 []])[os.length]?=some (.arr 1 (rowsOf cG [])):=by rw[hC];rfl
  refine aG (fun z:Nat × List Ob × Nat × List (Nat × Nat)=>(⟨aw [(1,.tree 1 (rowsOf aK left)),(2,.tree 4 (rowsOf fZ l)),(3,.ptr 0 0 0),(10,.ref ai 1 0 D.length),(11,.ref z.2.2.1 1 0 z.2.2.2.length),(13,.lit (.int .i64 z.1))],z.2.1⟩:St))
    (fun z=>z.1≤m.ah.length∧z.2.2.2.length=z.1∧z.2.1[0]?=some (.var (au m))∧z.2.1[ai]?=some (.arr 1 (rowsOf cG D))∧z.2.1[z.2.2.1]?=some (.arr 1 (rowsOf cG z.2.2.2))∧z.2.2.1≠ai∧RI iH z.2.1 D (S0 m)∧RI iH z.2.1 z.2.2.2 ((T0 m).take z.1)∧((D++z.2.2.2).map (·.1)).Nodup)
    (fun z=>m.ah.length - z.1) (0,os++[.arr 1 []],os.length,[]) ⟨aH _,rfl,bz f0 _,bz fa _,V5,fun e=>by have h2:=(aY.1 fa).1;dsimp only at e;omega,hR.app _,by rw[lW];exact RI.nil,by simpa using bC⟩ ?_ ?_
  · refine aQ.trans (aQ.nil 11 1 (by simp only[Kc,simprocAttr]) (by decide)) ?_
    exact Xv X0
  clear f0 fa hR bC V5 os
  rintro ⟨i,os,bi,E⟩ ⟨hi,hE,f0,fa,fb,gq,Dg,Dh,bC⟩ Ql ak aq
  dsimp only at hi hE f0 fa fb gq Dg Dh bC ⊢
  have e0:=bz f0
  have eb:=bz fb
  have sb:=ke fb
  by_cases ax:i<m.ah.length
  · have pH:=fY cu.pr _ (az (d:=default) ax)
    have xj:=(Dd pH cu)
    have Kf:=V4 (m.ah.getD i default).aP (by omega)
    have Kg:(0:Nat)≠bi:=fun e=>by rw[← e,f0] at fb;cases fb
    rw[eT,rZ] at bC
    obtain ⟨g1,g2,g3,g4⟩:=RI.step fb (by simp) Dh bC.2.1 (dt (m.ah.getD i default).aP) (.arr 1 [[.ref os.length 2 0 (dt (m.ah.getD i default).aP).length]]) (.arr 1 (rowsOf cG (E++[(os.length,(dt (m.ah.getD i default).aP).length)])))
    have ef:(T0 m).take (i+1)=(T0 m).take i++[dt (m.ah.getD i default).aP]:=by
      rw[eU (by unfold T0;rw[eD];exact ax)]
      unfold T0;rw[kH _ _ _ ax]
    have aeF:=(Dg.kill (y:=.gone) fb (by simp)).app [.arr 2 (rowsOf iH (dt (m.ah.getD i default).aP)),.arr 1 [[.ref os.length 2 0 (dt (m.ah.getD i default).aP).length]],.arr 1 (rowsOf cG (E++[(os.length,(dt (m.ah.getD i default).aP).length)]))]
    have aeG:((D++(E++[(os.length,(dt (m.ah.getD i default).aP).length)])).map (·.1)).Nodup:=by
      rw[eT,rZ]
      refine⟨bC.1,g3,fun a ha b hb=>?_⟩
      rw[eT,dh] at hb
      rcases hb with hb | hb
      · exact bC.2.2 a ha b hb
      · simp only[List.map_cons,lV,ee] at hb
        subst hb
        exact fun e=>Dg.fresh (Nat.le_refl _) (e ▸ ha)
    have Kh:=(aY.1 fa).1
    generalize bQ:m.ah.getD i default=p at *
    ((repeat' (first|refine Va (X5 @f0 @fb @e0 @eb (X3 @bQ @bc.eq_1 @gQ)) ?_|(refine Xi ?_ ?_<;>try intro ht)|exact Xx|fail))<;>try with_reducible intro K hK)
    refine ig [] Kf (by simp) trivial ⟨.pure rfl,trivial⟩ ?_
    ((try revert hK K);((refine Va (X5 @f0 @fb @e0 @eb (X5 @sb @bQ @bc.eq_1 @gQ (X5 @dj.{0} @iz @gU @FE (X2 @bU.{0} @bF.{0})))) ?_)))
    refine ak _ (i+1,_,os.length+2,E++[(os.length,(dt p.aP).length)]) ⟨by dsimp only;omega,by simp;omega,g4 _ _ f0 Kg,g4 _ _ fa gq.symm,g1,by dsimp only;omega,aeF,by rw[ef];exact g2,aeG⟩ (by dsimp only;omega) ?_
    exact Xv X0
  rw[dN (by unfold T0;rw[eD];omega)] at Dh
  have hEl:E.length=m.ah.length:=by omega
  ((repeat' (first|refine Va (X4 @f0 @fa @e0 @eb) ?_|(refine Xi ?_ ?_<;>try intro ht)|exact Xx|fail)))
  refine aq _ _ rfl ?_;clear ak aq Ql
  repeat (refine Xu ?_)
  refine Va (X2 @f0 @fa) ?_
  clear hi ax hE e0 eb sb
  have iI:LO iH [(0,.var (au m)),(ai,.arr 1 (rowsOf cG D)),(bi,.arr 1 (rowsOf cG E))] D E (S0 m) (T0 m) os:=⟨fun b hb=>by
    simp only[bW,lX,or_false] at hb
    rcases hb with rfl | rfl | rfl
    · exact⟨f0,by simp⟩
    · exact⟨fa,by simp⟩
    · exact⟨fb,by simp⟩,Dg,Dh,bC⟩
  refine aG (fun z:Nat × List Ob=>(⟨aw [(1,.tree 1 (rowsOf aK left)),(2,.tree 4 (rowsOf fZ l)),(3,.ptr 0 0 0),(10,.ref ai 1 0 D.length),(11,.ref bi 1 0 E.length),(14,.lit (.int .i64 z.1))],z.2⟩:St))
    (fun z=>z.1≤l.length∧LO iH [(0,.var (au m)),(ai,.arr 1 (rowsOf cG D)),(bi,.arr 1 (rowsOf cG E))] D E (je m (l.take z.1) (S0 m,T0 m)).1 (je m (l.take z.1) (S0 m,T0 m)).2 z.2)
    (fun z=>l.length - z.1) (0,os) ⟨aH _,iI⟩ (Xv X0) ?_
  clear f0 fa fb Dg Dh bC iI os
  rintro ⟨i,os⟩ ⟨hi,iI⟩ Ql ak aq
  dsimp only at hi iI ⊢
  have f0:=(iI.base (0,.var (au m)) (by simp)).1
  have fa:=(iI.base (ai,.arr 1 (rowsOf cG D)) (by simp)).1
  have fb:=(iI.base (bi,.arr 1 (rowsOf cG E)) (by simp)).1
  have e0:=bz f0
  have ea:=bz fa
  have eb:=bz fb
  dsimp only at f0 fa fb e0 ea eb
  by_cases ax:i<l.length
  · have uz:=az (d:=default) ax
    have ng:=fJ _ uz
    have ef:je m (l.take (i+1)) (S0 m,T0 m)=ln m (l.getD i default) (je m (l.take i) (S0 m,T0 m)):=by rw[eU ax,acX]
    have kh:=Fu cu (l.take i) (fun x hx=>fJ x (List.mem_of_mem_take hx))
    rw[eX,Nat.min_eq_left (by omega)] at kh
    generalize je m (l.take i) (S0 m,T0 m)=g at *
    generalize bS:l.getD i default=x at *
    have Ki:=ng
    unfold lk at Ki
    rw[a7,decide_eq_true_eq] at Ki
    obtain ⟨⟨x1,x2,x3,x4,x5,x6⟩,lQ⟩:=Ki
    obtain ⟨o1,o2,o3,o4⟩:=cV.1 lQ
    have ca:=fY cu.pr _ (az (l:=m.ah) (i:=x.pair.toNat) (d:=default) (by omega))
    obtain ⟨VU,VV,VW,F0⟩:=Kb ca
    have hlF:=cu.opt _ (az (l:=m.cls) (i:=(m.ah.getD x.pair.toNat default).fst.toNat) (d:=default) (by omega))
    have hlS:=cu.opt _ (az (l:=m.cls) (i:=(m.ah.getD x.pair.toNat default).snd.toNat) (d:=default) (by omega))
    obtain ⟨vD,FZ⟩:=iI.rE.row x.pair.toNat (by omega)
    obtain ⟨qv,A7⟩:=iI.rD.row (kL m x).toNat (by omega)
    have qe:=bz vD
    have qd:=bz qv
    have FX:=kh.sl (kL m x).toNat (by omega)
    have Cv:=kh.tl x.pair.toNat (by omega)
    have ai0:(List.getD E x.pair.toNat default).1=(List.getD E x.pair.toNat default).1:=rfl
    by_cases hs:x.side=0
    · have hc:kL m x=(m.ah.getD x.pair.toNat default).fst:=by unfold kL;rw[if_pos hs]
      rw[hc] at qv A7 qd FX o1 o2 o4
      have sd:=ke qv
      have qU:=(uh kh.sb (m.ah.getD x.pair.toNat default).fst.toNat).get (by omega) x.opt.toNat
      have hF:qn m x=(fun k:Nat=>(x.opt * (m.cls.getD (m.ah.getD x.pair.toNat default).snd.toNat default).length+k).toNat,(m.cls.getD (m.ah.getD x.pair.toNat default).snd.toNat default).length):=by unfold qn;rw[if_pos hs]
      have vr:ln m x g=(g.1.set (m.ah.getD x.pair.toNat default).fst.toNat (nt (g.1.getD (m.ah.getD x.pair.toNat default).fst.toNat default) x.opt.toNat x.gM),g.2.set x.pair.toNat (j9 (qn m x).1 x.gM (qn m x).2 (g.2.getD x.pair.toNat default))):=by unfold ln;rw[hc]
      have Kj:=(iI.Sl (j:=(m.ah.getD x.pair.toNat default).fst.toNat) (by omega) (r:=nt (g.1.getD (m.ah.getD x.pair.toNat default).fst.toNat default) x.opt.toNat x.gM) (AJ _ _ _)).vars (bF ..) (.var (fZ x)) (.var (bc (m.ah.getD x.pair.toNat default))) (by simp) (by simp)
      generalize bQ:m.ah.getD x.pair.toNat default=p at *
      generalize Kk:(m.cls.getD p.snd.toNat default).length=jD at *
      ((repeat' (first|refine Va (X5 @f0 @fa @fb @e0 (X5 @ea @eb @bS @bQ (X5 @Kk @fZ.eq_1 @bc.eq_1 @bA.eq_1 (X5 @cG.eq_1 @iH.eq_1 @vD @qv (X5 @qe @qd @sd @gQ (X5 @FF @dj.{0} @iz @gU @bU.{0})))))) ?_|(refine Xi ?_ ?_<;>try intro ht)|exact Xx|fail)))
      rw[hF] at vr
      dsimp only at vr
      refine aG (fun z:Nat × List Ob=>(⟨aw [(1,.tree 1 (rowsOf aK left)),(2,.tree 4 (rowsOf fZ l)),(3,.ptr 0 0 0),(10,.ref ai 1 0 D.length),(11,.ref bi 1 0 E.length),(14,.lit (.int .i64 i)),(15,.ptr os.length 0 0),(18,.lit (.int .i64 jD)),(19,.ref (E.getD x.pair.toNat default).1 2 0 (E.getD x.pair.toNat default).2),(20,.lit (.int .i64 z.1))],z.2⟩:St))
        (fun z=>z.1≤jD∧LO iH ((os.length,.var (fZ x))::(os.length+1,.var (bc p))::[(0,.var (au m)),(ai,.arr 1 (rowsOf cG D)),(bi,.arr 1 (rowsOf cG E))]) D E (g.1.set p.fst.toNat (nt (g.1.getD p.fst.toNat default) x.opt.toNat x.gM)) (g.2.set x.pair.toNat (j9 (fun k:Nat=>(x.opt * jD+k).toNat) x.gM z.1 (g.2.getD x.pair.toNat default))) z.2)
        (fun z=>jD - z.1) (0,_) ⟨aH _,by rw[j9,JA];exact Kj⟩ (Xv X0) ?_
      rintro ⟨k,ok⟩ ⟨hk,qx⟩ cR ba bd
      dsimp only at hk qx ⊢
      have fx:=(qx.base (os.length,.var (fZ x)) (by simp)).1
      dsimp only at fx
      obtain ⟨Di,Kl⟩:=qx.rE.row x.pair.toNat (by omega)
      have Dj:x.pair.toNat<g.2.length:=by rw[kh.t];omega
      rw[yJ _ _ _ Dj] at Di Kl
      have l8:=CL (fun k:Nat=>(x.opt * jD+k).toNat) x.gM k (g.2.getD x.pair.toNat default)
      have hbd:=((uh kh.tb x.pair.toNat).sub (by omega) (fun k:Nat=>(x.opt * jD+k).toNat) (a:=x.gM) (by omega) k).get (by omega) (x.opt * jD+k:Int).toNat
      by_cases aF:k<jD
      · have sL:=qx.Sm (j:=x.pair.toNat) (by omega) (r:=nt (j9 (fun k:Nat=>(x.opt * jD+k).toNat) x.gM k (g.2.getD x.pair.toNat default)) (x.opt * jD+k:Int).toNat (-x.gM)) (by rw[yJ _ _ _ Dj];exact AJ _ _ _)
        rw[r8] at sL
        obtain ⟨ix1,ix2,ix3,ix4⟩:=V3 (a:=x.opt) (k:=(k:Int)) (c:=(jD:Int)) (n:=((m.cls.getD p.fst.toNat default).length:Int)) ⟨o3,o4⟩ (by omega) (by omega) (by omega)
        generalize Dk:(x.opt * jD+k:Int)=ix at *
        generalize mN:j9 (fun k:Nat=>(x.opt * jD+k).toNat) x.gM k (g.2.getD x.pair.toNat default)=tk at *
        ((repeat' (first|refine Va (X5 @fx @bS @Di @fZ.eq_1 (X4 @iH.eq_1 @FF @Dk @Int.sub_eq_add_neg)) ?_|(refine Xi ?_ ?_<;>try intro ht)|exact Xx|fail)))
        refine ba _ (k+1,_) ⟨by dsimp only;omega,by rw[j9,mN,Dk];exact sL⟩ (by dsimp only;omega) ?_
        exact Xv X0
      · have qy:k=jD:=by omega
        rw[qy] at qx
        ((repeat' (first|refine Va X0 ?_|(refine Xi ?_ ?_<;>try intro ht)|exact Xx|fail)))
        refine bd _ _ rfl ?_
        clear ba bd cR
        repeat (refine Xu ?_)
        refine Va X0 ?_
        refine ak _ (i+1,_) ⟨by dsimp only;omega,by rw[ef,vr];exact qx.sub (by simp)⟩ (by dsimp only;omega) ?_
        exact Xv X0
    · have hc:kL m x=(m.ah.getD x.pair.toNat default).snd:=by unfold kL;rw[if_neg hs]
      rw[hc] at qv A7 qd FX o1 o2 o4
      have sd:=ke qv
      have qU:=(uh kh.sb (m.ah.getD x.pair.toNat default).snd.toNat).get (by omega) x.opt.toNat
      have hF:qn m x=(fun k:Nat=>((k:Int) * (m.cls.getD (m.ah.getD x.pair.toNat default).snd.toNat default).length+x.opt).toNat,(m.cls.getD (m.ah.getD x.pair.toNat default).fst.toNat default).length):=by unfold qn;rw[if_neg hs]
      have vr:ln m x g=(g.1.set (m.ah.getD x.pair.toNat default).snd.toNat (nt (g.1.getD (m.ah.getD x.pair.toNat default).snd.toNat default) x.opt.toNat x.gM),g.2.set x.pair.toNat (j9 (qn m x).1 x.gM (qn m x).2 (g.2.getD x.pair.toNat default))):=by unfold ln;rw[hc]
      have Kj:=(iI.Sl (j:=(m.ah.getD x.pair.toNat default).snd.toNat) (by omega) (r:=nt (g.1.getD (m.ah.getD x.pair.toNat default).snd.toNat default) x.opt.toNat x.gM) (AJ _ _ _)).vars (bF ..) (.var (fZ x)) (.var (bc (m.ah.getD x.pair.toNat default))) (by simp) (by simp)
      generalize bQ:m.ah.getD x.pair.toNat default=p at *
      generalize Kk:(m.cls.getD p.snd.toNat default).length=jD at *
      generalize aeM:(m.cls.getD p.fst.toNat default).length=rows at *
      ((repeat' (first|refine Va (X5 @f0 @fa @fb @e0 (X5 @ea @eb @bS @bQ (X5 @Kk @aeM @fZ.eq_1 @bc.eq_1 (X5 @bA.eq_1 @cG.eq_1 @iH.eq_1 @vD (X5 @qv @qe @qd @sd (X5 @gQ @FF @dj.{0} @iz (X2 @gU @bU.{0}))))))) ?_|(refine Xi ?_ ?_<;>try intro ht)|exact Xx|fail)))
      rw[hF] at vr
      dsimp only at vr
      refine aG (fun z:Nat × List Ob=>(⟨aw [(1,.tree 1 (rowsOf aK left)),(2,.tree 4 (rowsOf fZ l)),(3,.ptr 0 0 0),(10,.ref ai 1 0 D.length),(11,.ref bi 1 0 E.length),(14,.lit (.int .i64 i)),(15,.ptr os.length 0 0),(17,.lit (.int .i64 rows)),(18,.lit (.int .i64 jD)),(19,.ref (E.getD x.pair.toNat default).1 2 0 (E.getD x.pair.toNat default).2),(21,.lit (.int .i64 z.1))],z.2⟩:St))
        (fun z=>z.1≤rows∧LO iH ((os.length,.var (fZ x))::(os.length+1,.var (bc p))::[(0,.var (au m)),(ai,.arr 1 (rowsOf cG D)),(bi,.arr 1 (rowsOf cG E))]) D E (g.1.set p.snd.toNat (nt (g.1.getD p.snd.toNat default) x.opt.toNat x.gM)) (g.2.set x.pair.toNat (j9 (fun k:Nat=>((k:Int) * jD+x.opt).toNat) x.gM z.1 (g.2.getD x.pair.toNat default))) z.2)
        (fun z=>rows - z.1) (0,_) ⟨aH _,by rw[j9,JA];exact Kj⟩ (Xv X0) ?_
      rintro ⟨k,ok⟩ ⟨hk,qx⟩ cR ba bd
      dsimp only at hk qx ⊢
      have fx:=(qx.base (os.length,.var (fZ x)) (by simp)).1
      dsimp only at fx
      obtain ⟨Di,Kl⟩:=qx.rE.row x.pair.toNat (by omega)
      have Dj:x.pair.toNat<g.2.length:=by rw[kh.t];omega
      rw[yJ _ _ _ Dj] at Di Kl
      have l8:=CL (fun k:Nat=>((k:Int) * jD+x.opt).toNat) x.gM k (g.2.getD x.pair.toNat default)
      have hbd:=((uh kh.tb x.pair.toNat).sub (by omega) (fun k:Nat=>((k:Int) * jD+x.opt).toNat) (a:=x.gM) (by omega) k).get (by omega) ((k:Int) * jD+x.opt).toNat
      by_cases aF:k<rows
      · have sL:=qx.Sm (j:=x.pair.toNat) (by omega) (r:=nt (j9 (fun k:Nat=>((k:Int) * jD+x.opt).toNat) x.gM k (g.2.getD x.pair.toNat default)) ((k:Int) * jD+x.opt).toNat (-x.gM)) (by rw[yJ _ _ _ Dj];exact AJ _ _ _)
        rw[r8] at sL
        obtain ⟨ix1,ix2,ix3,ix4⟩:=V3 (a:=(k:Int)) (k:=x.opt) (c:=(jD:Int)) (n:=(rows:Int)) (by omega) ⟨o3,o4⟩ (by omega) (by omega)
        generalize Dk:((k:Int) * jD+x.opt)=ix at *
        generalize mN:j9 (fun k:Nat=>((k:Int) * jD+x.opt).toNat) x.gM k (g.2.getD x.pair.toNat default)=tk at *
        ((repeat' (first|refine Va (X5 @fx @bS @Di @fZ.eq_1 (X4 @iH.eq_1 @FF @Dk @Int.sub_eq_add_neg)) ?_|(refine Xi ?_ ?_<;>try intro ht)|exact Xx|fail)))
        refine ba _ (k+1,_) ⟨by dsimp only;omega,by rw[j9,mN,Dk];exact sL⟩ (by dsimp only;omega) ?_
        exact Xv X0
      · have qy:k=rows:=by omega
        rw[qy] at qx
        ((repeat' (first|refine Va X0 ?_|(refine Xi ?_ ?_<;>try intro ht)|exact Xx|fail)))
        refine bd _ _ rfl ?_
        clear ba bd cR
        repeat (refine Xu ?_)
        refine Va X0 ?_
        refine ak _ (i+1,_) ⟨by dsimp only;omega,by rw[ef,vr];exact qx.sub (by simp)⟩ (by dsimp only;omega) ?_
        exact Xv X0
  rw[dN (by omega)] at iI
  have kh:=Fu cu l fJ
  have ai1:l.length≤2000:=by omega
  generalize je m l (S0 m,T0 m)=g at *
  have A8:(∀ r∈g.1,NB lp r)∧∀ r∈g.2,NB lp r:=⟨fun r hr=>(kh.sb r hr).mono (by unfold lp;omega),fun r hr=>(kh.tb r hr).mono (by unfold lp;omega)⟩
  ((repeat' (first|refine Va @f0 ?_|(refine Xi ?_ ?_<;>try intro ht)|exact Xx|fail)))
  refine aq _ _ rfl ?_;clear ak aq Ql
  repeat (refine Xu ?_)
  refine Va @f0 ?_
  have gB:=hf.1
  refine aG (fun i:Nat=>(⟨aw [(1,.tree 1 (rowsOf aK left)),(3,.ptr 0 0 0),(10,.ref ai 1 0 D.length),(11,.ref bi 1 0 E.length),(22,.lit (.int .i64 (bI (PC left g.1 i) (0,false)).1)),(23,.lit (.bool (bI (PC left g.1 i) (0,false)).2)),(24,.lit (.int .i64 i))],os⟩:St))
    (fun i=>i≤m.cls.length) (fun i=>m.cls.length - i) 0 (aH _) (Xv (X5 @PC.eq_1 @bI.eq_1 @L1 @lV.{0,0} @xS.{0,0})) ?_
  rintro i hi Ql ak aq
  by_cases ax:i<m.cls.length
  · have jx:=w7 _ (0,false) (Ji (left:=left) (by unfold lp;decide) A8.1 i)
    rw[AK] at jx
    have hlen:=hf.2 i (by omega)
    have bX:=kh.sl i ax
    have F1:=V6 (g.1.getD i default) (left.getD i default) (by omega) (by have:=cu.opt _ (az (d:=default) ax);omega)
    have mC:=CM (g.1.getD i default) (left.getD i default) (0,false) (uh A8.1 i) (by unfold lp;decide)
    have dV:bI (PC left g.1 (i+1)) (0,false)=((bI (PC left g.1 i) (0,false)).1+(cY (g.1.getD i default) (left.getD i default) (0,false)).1,(bI (PC left g.1 i) (0,false)).2 || !(cY (g.1.getD i default) (left.getD i default) (0,false)).2):=by
      rw[show PC left g.1 (i+1)=PC left g.1 i++[cY (g.1.getD i default) (left.getD i default) (0,false)] from yR _ i,AI]
    obtain ⟨qv,A7⟩:=iI.rD.row i (by omega)
    generalize bI (PC left g.1 i) (0,false)=z at *
    obtain ⟨z1,z2⟩:=z
    generalize cY (g.1.getD i default) (left.getD i default) (0,false)=q at *
    obtain ⟨q1,q2⟩:=q
    unfold lp at jx mC
    dsimp only at *
    generalize eV:left.getD i default=ll at *
    ((repeat' (first|refine Va (X5 @f0 @fa @qv @cG.eq_1 (X2 @eV @aK.eq_1)) ?_|(refine Xi ?_ ?_<;>try intro ht)|exact Xx|fail))<;>try with_reducible intro K hK)
    cases z2<;>cases q2
    all_goals
      refine oz [] F1 (by simp) trivial ⟨aO.fz qv (by rw[eP];exact A7.symm) (by simp),.pure rfl,trivial⟩ rfl (by simp) ?_
      ((try revert hK K);(repeat' (first|refine Va (X4 @f0 @fa @hU @kl) ?_|fail)))
      refine ak _ (i+1) (by omega) (by omega) ?_
      simp only[dV]
      exact Xv X0
  have F2:i=m.cls.length:=by omega
  rw[F2]
  have F3:=w7 _ (0,false) (Ji (left:=left) (by unfold lp;decide) A8.1 m.cls.length)
  rw[AK] at F3
  unfold nr at aj
  generalize bI (PC left g.1 m.cls.length) (0,false)=zc at *
  ((repeat' (first|refine Va @f0 ?_|(refine Xi ?_ ?_<;>try intro ht)|exact Xx|fail)))
  refine aq _ _ rfl ?_;clear ak aq Ql
  repeat (refine Xu ?_)
  refine Va @f0 ?_
  clear hi ax
  have V7:LO iH [(0,.var (au m)),(bi,.arr 1 (rowsOf cG E))] D E g.1 g.2 os:=iI.sub (by simp)
  refine aG (fun z:Nat × List Ob=>(⟨aw [(1,.tree 1 (rowsOf aK left)),(3,.ptr 0 0 0),(11,.ref bi 1 0 E.length),(22,.lit (.int .i64 (bI (PP m left g.2 z.1) zc).1)),(23,.lit (.bool (bI (PP m left g.2 z.1) zc).2)),(27,.lit (.int .i64 z.1))],z.2⟩:St))
    (fun z=>z.1≤m.ah.length∧LO iH [(0,.var (au m)),(bi,.arr 1 (rowsOf cG E))] D E g.1 g.2 z.2) (fun z=>m.ah.length - z.1) (0,os) ⟨aH _,V7⟩ (Xv (X5 @PP.eq_1 @bI.eq_1 @L1 @lV.{0,0} @xS.{0,0})) ?_
  clear iI V7 f0 fa fb e0 ea eb os
  rintro ⟨i,os⟩ ⟨hi,iI⟩ Ql ak aq
  dsimp only at hi iI ⊢
  have f0:=(iI.base (0,.var (au m)) (by simp)).1
  have fb:=(iI.base (bi,.arr 1 (rowsOf cG E)) (by simp)).1
  dsimp only at f0 fb
  have e0:=bz f0
  have eb:=bz fb
  by_cases ax:i<m.ah.length
  · have ca:=fY cu.pr _ (az (d:=default) ax)
    obtain ⟨VU,VV,VW,F0⟩:=Kb ca
    have jx:=w7 _ zc (Jj (m:=m) (left:=left) (by unfold lp;decide) A8.2 i)
    rw[CN] at jx
    have dV:bI (PP m left g.2 (i+1)) zc=((bI (PP m left g.2 i) zc).1+(cY (g.2.getD i default) (gN m left i) (0,false)).1,(bI (PP m left g.2 i) zc).2 || !(cY (g.2.getD i default) (gN m left i) (0,false)).2):=by
      rw[show PP m left g.2 (i+1)=PP m left g.2 i++[cY (g.2.getD i default) (gN m left i) (0,false)] from yR _ i,AI]
    have mC:=CM (g.2.getD i default) (gN m left i) (0,false) (uh A8.2 i) (by unfold lp;decide)
    have uy:=hf.2 (m.ah.getD i default).fst.toNat (by omega)
    have pO:=hf.2 (m.ah.getD i default).snd.toNat (by omega)
    have hoa:=cu.opt _ (az (l:=m.cls) (i:=(m.ah.getD i default).fst.toNat) (d:=default) (by omega))
    have cj:=cu.opt _ (az (l:=m.cls) (i:=(m.ah.getD i default).snd.toNat) (d:=default) (by omega))
    have bX:=kh.tl i ax
    have y9:(g.2.getD i default).length=(gN m left i).length:=by
      unfold gN;rw[CO,uy,pO,bX]
      have:=F0
      rw[← Int.natCast_mul] at this
      exact Int.ofNat_inj.1 this
    have xj:=Dd ca cu
    have F1:=V6 (g.2.getD i default) (gN m left i) y9 (by omega)
    have Kd:gN m left i=pJ (left.getD (m.ah.getD i default).fst.toNat default) (left.getD (m.ah.getD i default).snd.toNat default):=rfl
    generalize cY (g.2.getD i default) (gN m left i) (0,false)=q at *
    generalize bI (PP m left g.2 i) zc=z at *
    generalize gN m left i=pb at *
    generalize bQ:m.ah.getD i default=p at *
    generalize De:left.getD p.fst.toNat default=la at *
    generalize Df:left.getD p.snd.toNat default=lb at *
    obtain ⟨z1,z2⟩:=z
    obtain ⟨q1,q2⟩:=q
    unfold lp at jx mC F3
    dsimp only at dV jx mC F1 ⊢
    ((repeat' (first|refine Va (X4 @f0 @fb @bQ @gQ) ?_|(refine Xi ?_ ?_<;>try intro ht)|exact Xx|fail)))
    have V8:LO iH ((os.length,.var (bc p))::[(0,.var (au m)),(bi,.arr 1 (rowsOf cG E))]) D E g.1 g.2 ((os++[.var (bc p)])++[.arr 1 []]):=((iI.app _).app _).add (bz (hC _ _ _) _) (by simp)
    refine aG (fun y:Nat × List Ob × Nat × List Bool=>(⟨aw [(1,.tree 1 (rowsOf aK left)),(3,.ptr 0 0 0),(11,.ref bi 1 0 E.length),(22,.lit (.int .i64 z1)),(23,.lit (.bool z2)),(27,.lit (.int .i64 i)),(28,.ptr os.length 0 0),(29,.ref y.2.2.1 1 0 y.2.2.2.length),(30,.lit (.int .i64 y.1))],y.2.1⟩:St))
      (fun y=>y.1≤la.length∧LO iH ((os.length,.var (bc p))::[(0,.var (au m)),(bi,.arr 1 (rowsOf cG E))]) D E g.1 g.2 y.2.1∧y.2.1[y.2.2.1]?=some (.arr 1 (bf y.2.2.2))∧os.length<y.2.2.1∧y.2.2.2=pJ (la.take y.1) lb)
      (fun y=>la.length - y.1) (0,(os++[.var (bc p)])++[.arr 1 []],(os++[Ob.var (bc p)]).length,[]) ⟨aH _,V8,hC _ _ _,by simp,rfl⟩ ?_ ?_
    · refine aQ.trans (aQ.nil 29 1 (by simp only[Kc,simprocAttr]) (by decide)) ?_
      exact Xv X0
    clear V8
    rintro ⟨a,oy,ti,bs⟩ ⟨ha,A9,eJ,jC,lE⟩ cR ba bd
    dsimp only at ha A9 eJ jC lE ⊢
    have fp:=(A9.base (os.length,.var (bc p)) (by simp)).1
    have V9:=(A9.base (bi,.arr 1 (rowsOf cG E)) (by simp)).1
    have bil:=(aY.1 fb).1
    have osl:=(aY.1 f0).1
    dsimp only at fp V9
    by_cases n7:a<la.length
    · ((repeat' (first|refine Va (X5 @fp @bQ @De @aK.eq_1 @bc.eq_1) ?_|(refine Xi ?_ ?_<;>try intro ht)|exact Xx|fail)))
      have hta:=eU n7
      refine aG (fun y:Nat × List Ob × Nat × List Bool=>(⟨aw [(1,.tree 1 (rowsOf aK left)),(3,.ptr 0 0 0),(11,.ref bi 1 0 E.length),(22,.lit (.int .i64 z1)),(23,.lit (.bool z2)),(27,.lit (.int .i64 i)),(28,.ptr os.length 0 0),(29,.ref y.2.2.1 1 0 y.2.2.2.length),(30,.lit (.int .i64 a)),(31,.lit (.int .i64 y.1))],y.2.1⟩:St))
        (fun y=>y.1≤lb.length∧LO iH ((os.length,.var (bc p))::[(0,.var (au m)),(bi,.arr 1 (rowsOf cG E))]) D E g.1 g.2 y.2.1∧y.2.1[y.2.2.1]?=some (.arr 1 (bf y.2.2.2))∧os.length<y.2.2.1∧y.2.2.2=bs++(lb.take y.1).map (la.getD a default && ·))
        (fun y=>lb.length - y.1) (0,oy,ti,bs) ⟨aH _,A9,eJ,jC,by simp⟩ (Xv X0) ?_
      rintro ⟨b,ob,tb,cs⟩ ⟨da,F4,zd,V',eZ⟩ mh eS eI
      dsimp only at da F4 zd V' eZ ⊢
      have Dl:=(F4.base (os.length,.var (bc p)) (by simp)).1
      dsimp only at Dl
      have qw:=bz zd
      have epb:=bz Dl
      have stb:=ke zd
      have bL:cs.length≤24 * 24+24:=by
        rw[eZ,lE,bU,CO,eD,eX,eX]
        have:=D6 (show min a la.length≤24 by omega) (show lb.length≤24 by omega)
        omega
      by_cases xl:b<lb.length
      · have aeQ:=eU xl
        have Wa:=((F4.kill (y:=.gone) zd (by simp) (by simp only[bW,lX,or_false,forall_eq_or_imp,forall_eq];omega)).app [.arr 1 [[.lit (.bool (la.getD a false && lb.getD b false))]],.arr 1 (bf (cs++[la.getD a false && lb.getD b false]))])
        have g6:cs++[la.getD a false && lb.getD b false]=bs++(lb.take (b+1)).map (la.getD a default && ·):=by rw[aeQ,eT,← dj,← eZ];rfl
        have ai4:=(aY.1 zd).1
        generalize hxa:la.getD a false=xa at *
        generalize aeS:lb.getD b false=xb at *
        cases xa
        all_goals
          simp only[Bool.false_and,Bool.true_and] at Wa g6
          ((repeat' (first|refine Va (X5 @Dl @zd @qw @epb (X5 @stb @bQ @De @Df (X5 @hxa @aeS @aK.eq_1 @bc.eq_1 (X5 @gQ @dj.{0} @iz @gU (X3 @bU.{0} @bF.{0} @Hu))))) ?_|(refine Xi ?_ ?_<;>try intro ht)|exact Xx|fail)))
          refine eS _ (b+1,_,ob.length+1,_) ⟨by dsimp only;omega,Wa,yW _ _ _ _ _,by dsimp only;omega,g6⟩ (by dsimp only;omega) ?_
          exact Xv X0
      · rw[dN (by omega)] at eZ
        ((repeat' (first|refine Va (X5 @Dl @bQ @Df @aK.eq_1 @bc.eq_1) ?_|(refine V2 (X5 @Dl @bQ @Df @aK.eq_1 @bc.eq_1) ?_ ?_<;>try with_reducible intro hb)|(refine Xi ?_ ?_<;>try intro ht)|exact Xx|fail)))
        refine eI _ _ rfl ?_
        clear eS eI mh
        repeat (refine Xu ?_)
        refine Va X0 ?_
        refine ba _ (a+1,ob,tb,cs) ⟨by dsimp only;omega,F4,zd,V',by rw[hta,ac0,← lE];exact eZ⟩ (by dsimp only;omega) ?_
        exact Xv X0
    · rw[dN (by omega),← Kd] at lE
      subst lE
      obtain ⟨vD,FZ⟩:=A9.rE.row i (by omega)
      ((repeat' (first|refine Va (X5 @fp @bQ @De @aK.eq_1 @bc.eq_1) ?_|(refine Xi ?_ ?_<;>try intro ht)|exact Xx|fail)))
      refine bd _ _ rfl ?_
      clear ba bd cR
      repeat (refine Xu ?_)
      ((refine Va (X3 @V9 @vD @cG.eq_1) ?_)<;>try with_reducible intro K hK)
      cases z2<;>cases q2
      all_goals
        refine oz [] F1 (by simp) trivial ⟨aO.fz vD (by rw[eP];exact FZ.symm) (by simp),aO.fz eJ (by rw[zS]) (by simp),trivial⟩ rfl (by simp) ?_
        ((try revert hK K);(repeat' (first|refine Va (X2 @hU @kl) ?_|fail)))
        refine ak _ (i+1,oy) ⟨by dsimp only;omega,A9.sub (by simp)⟩ (by dsimp only;omega) ?_
        simp only[dV]
        exact Xv X0
  have F5:i=m.ah.length:=by omega
  rw[F5]
  have Km:=w7 _ zc (Jj (m:=m) (left:=left) (by unfold lp;decide) A8.2 m.ah.length)
  rw[CN] at Km
  generalize bI (PP m left g.2 m.ah.length) zc=zp at *
  ((repeat' (first|refine Va @f0 ?_|(refine Xi ?_ ?_<;>try intro ht)|exact Xx|fail)))
  refine aq _ _ rfl ?_;clear ak aq Ql
  repeat (refine Xu ?_)
  refine Va @f0 ?_
  clear hi ax
  refine aG (fun i:Nat=>(⟨aw [(1,.tree 1 (rowsOf aK left)),(3,.ptr 0 0 0),(22,.lit (.int .i64 (bI (PK m left i) zp).1)),(23,.lit (.bool (bI (PK m left i) zp).2)),(34,.lit (.int .i64 i))],os⟩:St))
    (fun i=>i≤m.av.length) (fun i=>m.av.length - i) 0 (aH _) (Xv (X5 @PK.eq_1 @bI.eq_1 @L1 @lV.{0,0} @xS.{0,0})) ?_
  rintro i hi Ql ak aq
  unfold lp at F3 Km
  dsimp only at F3 Km
  by_cases ax:i<m.av.length
  · have gJ:=az (d:=default) ax
    obtain ⟨q1,q2,q3,q4⟩:=Wd cu hf gJ
    have h3:=aeT m left _ cu hf gJ
    have ze:=Jv (fun x hx=>(q1 x hx).2) left
    have h4:=VE (j' (m.av.getD i default).aA 0 left 0 - (m.av.getD i default).most) (m.av.getD i default).bg (by omega) q3
    rw[We q3] at h4
    have jx:=w7 _ zp (Jk cu (left:=left) i)
    rw[Fv] at jx
    have hvr:=RH (m.av.getD i default).most (m.av.getD i default).bg (j' (m.av.getD i default).aA 0 left 0) q2 q3.1
    have dV:bI (PK m left (i+1)) zp=((bI (PK m left i) zp).1+lO left (m.av.getD i default),(bI (PK m left i) zp).2 || !!(decide ((m.av.getD i default).bg=1099511627776) && decide (0<lO left (m.av.getD i default)))):=by
      rw[show PK m left (i+1)=PK m left i++[(lO left (m.av.getD i default),!(decide ((m.av.getD i default).bg=1099511627776) && decide (0<lO left (m.av.getD i default))))] from yR _ i,AI]
    unfold lO at dV
    generalize bI (PK m left i) zp=z at *
    obtain ⟨z1,z2⟩:=z
    generalize aJ:m.av.getD i default=c at *
    generalize iZ c.most c.bg (j' c.aA 0 left 0)=v at *
    dsimp only at dV jx ⊢
    by_cases Kn:c.bg=1099511627776
    all_goals
      by_cases Wf:0<v
    all_goals
      simp only[Kn,Wf,decide_true,decide_false,Bool.and_true,Bool.and_false,hU,kl,Bool.or_true,Bool.or_false] at dV
      cases z2
    all_goals
      ((repeat' (first|refine Vc (X3 @f0 @aJ @bu.eq_1) (X2 h3 h4) ?_|(refine V2 (X3 @f0 @aJ @bu.eq_1) ?_ ?_<;>try with_reducible intro hb)|(refine Xi ?_ ?_<;>try intro ht)|exact Xx|fail)))
      refine ak _ (i+1) (by omega) (by omega) ?_
      simp only[dV]
      exact Xv (X4 @gt_iff_lt.{0} @Wf @decide_true @decide_false)
  · have Ko:i=m.av.length:=by omega
    rw[Ko]
    have Wg:=w7 _ zp (Jk cu (left:=left) m.av.length)
    rw[Fv] at Wg
    generalize bI (PK m left m.av.length) zp=zk at *
    obtain ⟨k1,k2⟩:=zk
    dsimp only at aj Wg ⊢
    ((repeat' (first|refine Va @f0 ?_|(refine Xi ?_ ?_<;>try intro ht)|exact Xx|fail)))
    refine aq _ _ rfl ?_;clear ak aq Ql
    repeat (refine Xu ?_)
    cases k2
    · simp only[Bool.false_eq_true,if_false] at aj
      subst aj
      ((repeat' (first|refine Vb @f0 ?_|(refine Xi ?_ ?_<;>try intro ht)|exact Xx|fail)))
      exact aE rfl rfl
    · simp only[if_true] at aj
      subst aj
      ((repeat' (first|refine Vb @f0 ?_|(refine Xi ?_ ?_<;>try intro ht)|exact Xx|fail)))
      exact aE rfl rfl
end T

