import Derived.Test.YtkmfgcbdnijgeaaGreatX22
import Derived.Test.YtkmfgcbdnijgeaaGreatX19
set_option linter.unusedVariables false
set_option linter.unusedSimpArgs false
set_option linter.unnecessarySimpa false
set_option linter.unusedSectionVars false
set_option maxHeartbeats 64000000
set_option maxRecDepth 20000
open Go Go.Am Go.Proofs
open Nat (reduceEqDiff reduceAdd reduceLeDiff reduceMul)
open Int (reduceNeg reduceLE reduceToNat)
namespace T
theorem chs_len {m:Mdl} (hm:VM m) {c:List Opt} (hc:c∈m.cls) {o:Opt} (ho:o∈c):o.ch.length≤100:=by
  have h:=hm.chs c hc o ho
  have hr:=hm.rul
  cases hch:o.ch with
  | nil=>simp
  | cons x r =>
    rw[hch,chL] at h
    simp only[Bool.and_eq_true,decide_eq_true_eq,ruleB] at h
    rcases chL_len h.2 with rfl | h2
    · simp
    · simp only[List.length_cons];omega
theorem pairB_tab {m:Mdl} {p:Pr} (hp:pairB m p=true) (hm:VM m):p.tab.length≤576:=by
  unfold pairB at hp
  simp only[Bool.and_eq_true,decide_eq_true_eq] at hp
  obtain ⟨⟨_,h1,h2,h3,h4⟩,_⟩:=hp
  have a:=hm.opt _ (getD_mem (l:=m.cls) (i:=p.fst.toNat) (d:=default) (by omega))
  have b:=hm.opt _ (getD_mem (l:=m.cls) (i:=p.snd.toNat) (d:=default) (by omega))
  have:=Nat.mul_le_mul a b
  have e:(p.tab.length:Int)=((m.cls.getD p.fst.toNat default).length * (m.cls.getD p.snd.toNat default).length:Nat):=by rw[h4];simp
  omega
theorem pairB_in {m:Mdl} {p:Pr} (hp:pairB m p=true):0≤p.fst∧p.fst<p.snd∧p.snd<m.cls.length∧(p.tab.length:Int)=(m.cls.getD p.fst.toNat default).length * (m.cls.getD p.snd.toNat default).length:=by
  unfold pairB at hp
  simp only[Bool.and_eq_true,decide_eq_true_eq] at hp
  exact hp.1.2
theorem idx_in {a k c n:Int} (ha:0≤a∧a<n) (hk:0≤k∧k<c) (hc:c≤24) (hn:n≤24):0≤a * c∧a * c≤576∧0≤a * c+k∧a * c+k<n * c:=by
  have h1:0≤a * c:=Int.mul_nonneg ha.1 (by omega)
  have h2:(a+1) * c≤n * c:=Int.mul_le_mul_of_nonneg_right (by omega) (by omega)
  rw[Int.add_mul] at h2
  have h3:n * c≤24 * 24:=Int.mul_le_mul hn hc (by omega) (by omega)
  omega
theorem refValue_ok (m:Mdl) (left:List (List Bool)) (l:List Mv) (hm:MB m) (hb:BB left) (hl:l.length<9223372036854775808):Holds Tryz.prog 79 [.agg (eMdl m),.tree 1 (rowsOf eBs left),.tree 4 (rowsOf eMv l)] [] (.tup [.lit (.int .i64 (valueT m left l).1),.lit (.int .i64 (valueT m left l).2)]) []:=by
  have h1:=refValid_ok m hm
  have h2:=refFits_ok m left hm hb
  generalize hres:valueT m left l=res
  unfold valueT startV at hres
  refine Holds.of_body' (fn:=Tryz.f79) 342 0 [.tmp 6,.tmp 7] Tryz.func79 rfl rfl rfl rfl rfl (by simp) ?_
  by_cases hv:validV m=0
  rotate_left
  · rw[if_pos (c:=validV m≠0) hv,if_pos hv] at hres
    generalize validV m=e at *
    subst hres
    ((repeat' (first|refine Vd X0 (X2 h1 h2) ?_|(refine Xi ?_ ?_<;>try intro ht)|exact Xx|fail)))
    all_goals exact RetOK_pure' rfl rfl
  rw[if_neg (c:=validV m≠0) (by rw[hv];simp)] at hres
  rw[hv] at h1
  by_cases hf:FitsP m left
  rotate_left
  · rw[if_neg hf,if_pos (by simp)] at hres
    rw[decide_eq_false hf] at h2
    subst hres
    ((repeat' (first|refine Vd (X2 @bne_self_eq_false.{0} @Bool.not_false) (X2 h1 h2) ?_|(refine Xi ?_ ?_<;>try intro ht)|exact Xx|fail)))
    all_goals exact RetOK_pure' rfl rfl
  rw[if_pos hf,if_neg (by simp)] at hres
  rw[decide_eq_true hf] at h2
  have hvm:=valid_iff.1 hv
  have hc24:=hvm.cls
  have hp4:=hvm.prs
  have hk8:=hvm.cts
  unfold leafT at hres
  by_cases hlen:2000<l.length
  · rw[if_pos hlen] at hres
    subst hres
    ((repeat' (first|refine Vd (X2 @bne_self_eq_false.{0} @Bool.not_true) (X2 h1 h2) ?_|(refine Xi ?_ ?_<;>try intro ht)|exact Xx|fail)))
    all_goals exact RetOK_pure' rfl rfl
  rw[if_neg hlen] at hres
  ((repeat' (first|refine Vd (X2 @bne_self_eq_false.{0} @Bool.not_true) (X2 h1 h2) ?_|(refine Xi ?_ ?_<;>try intro ht)|exact Xx|fail)))
  refine W_loopS (fun i:Nat=>(⟨slots [(1,.tree 1 (rowsOf eBs left)),(2,.tree 4 (rowsOf eMv l)),(3,.ptr 0 0 0),(9,.lit (.int .i64 i))],[.var (eMdl m)]⟩:St)) (fun i=>i≤l.length∧∀ x∈l.take i,mvB m x=true) (fun i=>l.length - i) 0 ⟨Nat.zero_le _,by simp⟩ (Xv X0) ?_
  rintro i ⟨hi,hall⟩ Ql hnl hel
  by_cases hi':i<l.length
  · have hmv:=movable_ok m (l.getD i default) hvm
    have hts:=take_snoc hi'
    have hmem:=getD_mem (d:=default) hi'
    generalize hxx:l.getD i default=x at *
    by_cases hx:mvB m x=true
    · rw[hx] at hmv
      ((repeat' (first|refine Vc (X3 @hxx @eMv.eq_1 @Bool.not_true) hmv ?_|(refine Xi ?_ ?_<;>try intro ht)|exact Xx|fail)))
      exact hnl _ (i+1) ⟨by omega,fun y hy=>by
        rw[hts] at hy
        rcases List.mem_append.1 hy with hy | hy
        · exact hall y hy
        · simp only[List.mem_singleton] at hy;subst hy;exact hx⟩ (by omega) (Xv X0)
    · have hx':mvB m x=false:=by simpa using hx
      rw[hx'] at hmv
      rw[if_pos (by rw[List.all_eq_false];exact⟨x,hmem,hx⟩)] at hres
      subst hres
      ((repeat' (first|refine Vc (X3 @hxx @eMv.eq_1 @Bool.not_false) hmv ?_|(refine Xi ?_ ?_<;>try intro ht)|exact Xx|fail)))
      repeat (refine Xu ?_)
      refine Vb X0 ?_
      exact RetOK_pure' rfl rfl
  rw[List.take_of_length_le (by omega)] at hall
  rw[if_neg (by rw[Bool.not_eq_false];exact List.all_eq_true.2 hall)] at hres
  ((repeat' (first|refine Va X0 ?_|(refine Xi ?_ ?_<;>try intro ht)|exact Xx|fail)))
  refine hel _ _ rfl ?_;clear hnl hel Ql
  repeat (refine Xu ?_)
  refine Va X0 ?_
  have ho0:([.var (eMdl m)]:List Ob)[0]?=some (.var (eMdl m)):=rfl
  refine W_loopS (fun z:Nat × List Ob × Nat × List (Nat × Nat)=>(⟨slots [(1,.tree 1 (rowsOf eBs left)),(2,.tree 4 (rowsOf eMv l)),(3,.ptr 0 0 0),(10,.ref z.2.2.1 1 0 z.2.2.2.length),(11,.lit (.slice none 0 0)),(12,.lit (.int .i64 z.1))],z.2.1⟩:St))
    (fun z=>z.1≤m.cls.length∧z.2.2.2.length=z.1∧z.2.1[0]?=some (.var (eMdl m))∧z.2.1[z.2.2.1]?=some (.arr 1 (rowsOf eRf z.2.2.2))∧RI eNr z.2.1 z.2.2.2 ((S0 m).take z.1)∧(z.2.2.2.map (·.1)).Nodup)
    (fun z=>m.cls.length - z.1) (0,[.var (eMdl m),.arr 1 []],1,[]) ⟨Nat.zero_le _,rfl,rfl,rfl,by rw[List.take_zero];exact RI.nil,by simp⟩ ?_ ?_
  · refine Turns.trans (Turns.nil 10 1 (by simp only[Kc,simprocAttr]) (by decide)) ?_
    exact Xv X0
  clear hi hi' ho0
  rintro ⟨i,os,ai,D⟩ ⟨hi,hD,f0,fa,hR,hnd⟩ Ql hnl hel
  dsimp only at hi hD f0 fa hR hnd ⊢
  have e0:=oLo f0
  have ea:=oLo fa
  have sa:=oSo fa
  by_cases hi':i<m.cls.length
  · have hcm:=getD_mem (d:=default) hi'
    have hl24:=hvm.opt _ hcm
    have hown:=refOwn_ok (m.cls.getD i default) m.rules hl24 (hvm.chs _ hcm) (fun o ho=>chs_len hvm hcm ho)
    have hfirst:=refFirst_ok (ownV (m.cls.getD i default)) (by unfold ownV;rw[List.length_map];omega)
    generalize hcc:m.cls.getD i default=c at *
    ((repeat' (first|refine Vc (X5 @f0 @fa @e0 @ea (X3 @hcc @eCls.eq_1 @Oc2)) hown ?_|(refine Xi ?_ ?_<;>try intro ht)|exact Xx|fail))<;>try with_reducible intro K hK)
    refine callK_sel [] hfirst (by simp) trivial ⟨.pure rfl,trivial⟩ ?_
    have hne0:(0:Nat)≠ai:=fun e=>by rw[← e,f0] at fa;cases fa
    obtain ⟨g1,g2,g3,g4⟩:=RI.step fa (by simp) hR hnd (firstV (ownV c)) (.arr 1 [[.ref os.length 2 0 (firstV (ownV c)).length]]) (.arr 1 (rowsOf eRf (D++[(os.length,(firstV (ownV c)).length)])))
    have hts:(S0 m).take (i+1)=(S0 m).take i++[firstV (ownV c)]:=by
      rw[take_snoc (by unfold S0;rw[List.length_map];exact hi')]
      unfold S0;rw[map_getD _ _ _ hi',hcc]
    ((try revert hK K);((refine Va (X5 @f0 @fa @e0 @ea (X5 @sa @hcc @eCls.eq_1 @Oc2 (X5 @List.append_assoc.{0} @Nat.sub_self @Nat.add_zero @eRf_app (X2 @List.length_append.{0} @List.length_set.{0})))) ?_)))
    refine hnl _ (i+1,_,os.length+2,D++[(os.length,(firstV (ownV c)).length)]) ⟨by dsimp only;omega,by simp;omega,g4 _ _ f0 hne0,g1,by rw[hts];exact g2,g3⟩ (by dsimp only;omega) ?_
    exact Xv X0
  rw[List.take_of_length_le (by unfold S0;rw[List.length_map];omega)] at hR
  have hDl:D.length=m.cls.length:=by omega
  ((repeat' (first|refine Va (X4 @f0 @fa @e0 @ea) ?_|(refine Xi ?_ ?_<;>try intro ht)|exact Xx|fail)))
  refine hel _ _ rfl ?_;clear hnl hel Ql
  repeat (refine Xu ?_)
  refine Va (X2 @f0 @fa) ?_
  clear hi hi' hD e0 ea sa
  have fb0:(os++[Ob.arr 1 []])[os.length]?=some (.arr 1 (rowsOf eRf [])):=by rw[oL0];rfl
  refine W_loopS (fun z:Nat × List Ob × Nat × List (Nat × Nat)=>(⟨slots [(1,.tree 1 (rowsOf eBs left)),(2,.tree 4 (rowsOf eMv l)),(3,.ptr 0 0 0),(10,.ref ai 1 0 D.length),(11,.ref z.2.2.1 1 0 z.2.2.2.length),(13,.lit (.int .i64 z.1))],z.2.1⟩:St))
    (fun z=>z.1≤m.prs.length∧z.2.2.2.length=z.1∧z.2.1[0]?=some (.var (eMdl m))∧z.2.1[ai]?=some (.arr 1 (rowsOf eRf D))∧z.2.1[z.2.2.1]?=some (.arr 1 (rowsOf eRf z.2.2.2))∧z.2.2.1≠ai∧RI eNr z.2.1 D (S0 m)∧RI eNr z.2.1 z.2.2.2 ((T0 m).take z.1)∧((D++z.2.2.2).map (·.1)).Nodup)
    (fun z=>m.prs.length - z.1) (0,os++[.arr 1 []],os.length,[]) ⟨Nat.zero_le _,rfl,oLo f0 _,oLo fa _,fb0,fun e=>by have h2:=(List.getElem?_eq_some_iff.1 fa).1;dsimp only at e;omega,hR.app _,by rw[List.take_zero];exact RI.nil,by simpa using hnd⟩ ?_ ?_
  · refine Turns.trans (Turns.nil 11 1 (by simp only[Kc,simprocAttr]) (by decide)) ?_
    exact Xv X0
  clear f0 fa hR hnd fb0 os
  rintro ⟨i,os,bi,E⟩ ⟨hi,hE,f0,fa,fb,hab,hRD,hRE,hnd⟩ Ql hnl hel
  dsimp only at hi hE f0 fa fb hab hRD hRE hnd ⊢
  have e0:=oLo f0
  have eb:=oLo fb
  have sb:=oSo fb
  by_cases hi':i<m.prs.length
  · have hpm:=prsL_mem hvm.pr _ (getD_mem (d:=default) hi')
    have htl:=(pairB_tab hpm hvm)
    have hfirst:=refFirst_ok (m.prs.getD i default).tab (by omega)
    have hne0:(0:Nat)≠bi:=fun e=>by rw[← e,f0] at fb;cases fb
    rw[List.map_append,List.nodup_append] at hnd
    obtain ⟨g1,g2,g3,g4⟩:=RI.step fb (by simp) hRE hnd.2.1 (firstV (m.prs.getD i default).tab) (.arr 1 [[.ref os.length 2 0 (firstV (m.prs.getD i default).tab).length]]) (.arr 1 (rowsOf eRf (E++[(os.length,(firstV (m.prs.getD i default).tab).length)])))
    have hts:(T0 m).take (i+1)=(T0 m).take i++[firstV (m.prs.getD i default).tab]:=by
      rw[take_snoc (by unfold T0;rw[List.length_map];exact hi')]
      unfold T0;rw[map_getD _ _ _ hi']
    have hRD2:=(hRD.kill (y:=.gone) fb (by simp)).app [.arr 2 (rowsOf eNr (firstV (m.prs.getD i default).tab)),.arr 1 [[.ref os.length 2 0 (firstV (m.prs.getD i default).tab).length]],.arr 1 (rowsOf eRf (E++[(os.length,(firstV (m.prs.getD i default).tab).length)]))]
    have hnd2:((D++(E++[(os.length,(firstV (m.prs.getD i default).tab).length)])).map (·.1)).Nodup:=by
      rw[List.map_append,List.nodup_append]
      refine⟨hnd.1,g3,fun a ha b hb=>?_⟩
      rw[List.map_append,List.mem_append] at hb
      rcases hb with hb | hb
      · exact hnd.2.2 a ha b hb
      · simp only[List.map_cons,List.map_nil,List.mem_singleton] at hb
        subst hb
        exact fun e=>hRD.fresh (Nat.le_refl _) (e ▸ ha)
    have fal:=(List.getElem?_eq_some_iff.1 fa).1
    generalize hpp:m.prs.getD i default=p at *
    ((repeat' (first|refine Va (X5 @f0 @fb @e0 @eb (X3 @hpp @ePr.eq_1 @Oc2)) ?_|(refine Xi ?_ ?_<;>try intro ht)|exact Xx|fail))<;>try with_reducible intro K hK)
    refine callK_sel [] hfirst (by simp) trivial ⟨.pure rfl,trivial⟩ ?_
    ((try revert hK K);((refine Va (X5 @f0 @fb @e0 @eb (X5 @sb @hpp @ePr.eq_1 @Oc2 (X5 @List.append_assoc.{0} @Nat.sub_self @Nat.add_zero @eRf_app (X2 @List.length_append.{0} @List.length_set.{0})))) ?_)))
    refine hnl _ (i+1,_,os.length+2,E++[(os.length,(firstV p.tab).length)]) ⟨by dsimp only;omega,by simp;omega,g4 _ _ f0 hne0,g4 _ _ fa hab.symm,g1,by dsimp only;omega,hRD2,by rw[hts];exact g2,hnd2⟩ (by dsimp only;omega) ?_
    exact Xv X0
  rw[List.take_of_length_le (by unfold T0;rw[List.length_map];omega)] at hRE
  have hEl:E.length=m.prs.length:=by omega
  ((repeat' (first|refine Va (X4 @f0 @fa @e0 @eb) ?_|(refine Xi ?_ ?_<;>try intro ht)|exact Xx|fail)))
  refine hel _ _ rfl ?_;clear hnl hel Ql
  repeat (refine Xu ?_)
  refine Va (X2 @f0 @fa) ?_
  clear hi hi' hE e0 eb sb
  have hLO:LO eNr [(0,.var (eMdl m)),(ai,.arr 1 (rowsOf eRf D)),(bi,.arr 1 (rowsOf eRf E))] D E (S0 m) (T0 m) os:=⟨fun b hb=>by
    simp only[List.mem_cons,List.not_mem_nil,or_false] at hb
    rcases hb with rfl | rfl | rfl
    · exact⟨f0,by simp⟩
    · exact⟨fa,by simp⟩
    · exact⟨fb,by simp⟩,hRD,hRE,hnd⟩
  refine W_loopS (fun z:Nat × List Ob=>(⟨slots [(1,.tree 1 (rowsOf eBs left)),(2,.tree 4 (rowsOf eMv l)),(3,.ptr 0 0 0),(10,.ref ai 1 0 D.length),(11,.ref bi 1 0 E.length),(14,.lit (.int .i64 z.1))],z.2⟩:St))
    (fun z=>z.1≤l.length∧LO eNr [(0,.var (eMdl m)),(ai,.arr 1 (rowsOf eRf D)),(bi,.arr 1 (rowsOf eRf E))] D E (mvsL m (l.take z.1) (S0 m,T0 m)).1 (mvsL m (l.take z.1) (S0 m,T0 m)).2 z.2)
    (fun z=>l.length - z.1) (0,os) ⟨Nat.zero_le _,hLO⟩ (Xv X0) ?_
  clear f0 fa fb hRD hRE hnd hLO os
  rintro ⟨i,os⟩ ⟨hi,hLO⟩ Ql hnl hel
  dsimp only at hi hLO ⊢
  have f0:=(hLO.base (0,.var (eMdl m)) (by simp)).1
  have fa:=(hLO.base (ai,.arr 1 (rowsOf eRf D)) (by simp)).1
  have fb:=(hLO.base (bi,.arr 1 (rowsOf eRf E)) (by simp)).1
  have e0:=oLo f0
  have ea:=oLo fa
  have eb:=oLo fb
  dsimp only at f0 fa fb e0 ea eb
  by_cases hi':i<l.length
  · have hxm:=getD_mem (d:=default) hi'
    have hmx:=hall _ hxm
    have hts:mvsL m (l.take (i+1)) (S0 m,T0 m)=mvS m (l.getD i default) (mvsL m (l.take i) (S0 m,T0 m)):=by rw[take_snoc hi',mvsL_snoc]
    have hlg:=mvsL_lg hvm (l.take i) (fun x hx=>hall x (List.mem_of_mem_take hx))
    rw[List.length_take,Nat.min_eq_left (by omega)] at hlg
    generalize mvsL m (l.take i) (S0 m,T0 m)=g at *
    generalize hxx:l.getD i default=x at *
    have hmx':=hmx
    unfold mvB at hmx'
    rw[Bool.and_eq_true,decide_eq_true_eq] at hmx'
    obtain ⟨⟨x1,x2,x3,x4,x5,x6⟩,hopt⟩:=hmx'
    obtain ⟨o1,o2,o3,o4⟩:=optB_iff.1 hopt
    have hpb:=prsL_mem hvm.pr _ (getD_mem (l:=m.prs) (i:=x.pair.toNat) (d:=default) (by omega))
    obtain ⟨pb1,pb2,pb3,pb4⟩:=pairB_in hpb
    have hlF:=hvm.opt _ (getD_mem (l:=m.cls) (i:=(m.prs.getD x.pair.toNat default).fst.toNat) (d:=default) (by omega))
    have hlS:=hvm.opt _ (getD_mem (l:=m.cls) (i:=(m.prs.getD x.pair.toNat default).snd.toNat) (d:=default) (by omega))
    obtain ⟨rE1,rE2⟩:=hLO.rE.row x.pair.toNat (by omega)
    obtain ⟨rD1,rD2⟩:=hLO.rD.row (mvC m x).toNat (by omega)
    have qe:=oLo rE1
    have qd:=oLo rD1
    have hSl:=hlg.sl (mvC m x).toNat (by omega)
    have hTl:=hlg.tl x.pair.toNat (by omega)
    have hxpi:(List.getD E x.pair.toNat default).1=(List.getD E x.pair.toNat default).1:=rfl
    by_cases hs:x.side=0
    · have hc:mvC m x=(m.prs.getD x.pair.toNat default).fst:=by unfold mvC;rw[if_pos hs]
      rw[hc] at rD1 rD2 qd hSl o1 o2 o4
      have sd:=oSo rD1
      have hv1:=(NB_getD hlg.sb (m.prs.getD x.pair.toNat default).fst.toNat).get (by omega) x.opt.toNat
      have hF:mvF m x=(fun k:Nat=>(x.opt * (m.cls.getD (m.prs.getD x.pair.toNat default).snd.toNat default).length+k).toNat,(m.cls.getD (m.prs.getD x.pair.toNat default).snd.toNat default).length):=by unfold mvF;rw[if_pos hs]
      have hstep:mvS m x g=(g.1.set (m.prs.getD x.pair.toNat default).fst.toNat (addR (g.1.getD (m.prs.getD x.pair.toNat default).fst.toNat default) x.opt.toNat x.amt),g.2.set x.pair.toNat (subK (mvF m x).1 x.amt (mvF m x).2 (g.2.getD x.pair.toNat default))):=by unfold mvS;rw[hc]
      have hL1:=(hLO.setD (j:=(m.prs.getD x.pair.toNat default).fst.toNat) (by omega) (r:=addR (g.1.getD (m.prs.getD x.pair.toNat default).fst.toNat default) x.opt.toNat x.amt) (addR_len _ _ _)).vars (List.length_set ..) (.var (eMv x)) (.var (ePr (m.prs.getD x.pair.toNat default))) (by simp) (by simp)
      generalize hpp:m.prs.getD x.pair.toNat default=p at *
      generalize hcols:(m.cls.getD p.snd.toNat default).length=cols at *
      ((repeat' (first|refine Va (X5 @f0 @fa @fb @e0 (X5 @ea @eb @hxx @hpp (X5 @hcols @eMv.eq_1 @ePr.eq_1 @eCls.eq_1 (X5 @eRf.eq_1 @eNr.eq_1 @rE1 @rD1 (X5 @qe @qd @sd @Oc2 (X5 @eNr_set @List.append_assoc.{0} @Nat.sub_self @Nat.add_zero @List.length_append.{0})))))) ?_|(refine Xi ?_ ?_<;>try intro ht)|exact Xx|fail)))
      rw[hF] at hstep
      dsimp only at hstep
      refine W_loopS (fun z:Nat × List Ob=>(⟨slots [(1,.tree 1 (rowsOf eBs left)),(2,.tree 4 (rowsOf eMv l)),(3,.ptr 0 0 0),(10,.ref ai 1 0 D.length),(11,.ref bi 1 0 E.length),(14,.lit (.int .i64 i)),(15,.ptr os.length 0 0),(18,.lit (.int .i64 cols)),(19,.ref (E.getD x.pair.toNat default).1 2 0 (E.getD x.pair.toNat default).2),(20,.lit (.int .i64 z.1))],z.2⟩:St))
        (fun z=>z.1≤cols∧LO eNr ((os.length,.var (eMv x))::(os.length+1,.var (ePr p))::[(0,.var (eMdl m)),(ai,.arr 1 (rowsOf eRf D)),(bi,.arr 1 (rowsOf eRf E))]) D E (g.1.set p.fst.toNat (addR (g.1.getD p.fst.toNat default) x.opt.toNat x.amt)) (g.2.set x.pair.toNat (subK (fun k:Nat=>(x.opt * cols+k).toNat) x.amt z.1 (g.2.getD x.pair.toNat default))) z.2)
        (fun z=>cols - z.1) (0,_) ⟨Nat.zero_le _,by rw[subK,set_self];exact hL1⟩ (Xv X0) ?_
      rintro ⟨k,ok⟩ ⟨hk,hLk⟩ Ql2 hnl2 hel2
      dsimp only at hk hLk ⊢
      have fx:=(hLk.base (os.length,.var (eMv x)) (by simp)).1
      dsimp only at fx
      obtain ⟨rK1,rK2⟩:=hLk.rE.row x.pair.toNat (by omega)
      have htlen:x.pair.toNat<g.2.length:=by rw[hlg.t];omega
      rw[getD_set _ _ _ htlen] at rK1 rK2
      have hsl:=subK_len (fun k:Nat=>(x.opt * cols+k).toNat) x.amt k (g.2.getD x.pair.toNat default)
      have hbd:=((NB_getD hlg.tb x.pair.toNat).sub (by omega) (fun k:Nat=>(x.opt * cols+k).toNat) (a:=x.amt) (by omega) k).get (by omega) (x.opt * cols+k:Int).toNat
      by_cases hk':k<cols
      · have hL2:=hLk.setE (j:=x.pair.toNat) (by omega) (r:=addR (subK (fun k:Nat=>(x.opt * cols+k).toNat) x.amt k (g.2.getD x.pair.toNat default)) (x.opt * cols+k:Int).toNat (-x.amt)) (by rw[getD_set _ _ _ htlen];exact addR_len _ _ _)
        rw[List.set_set] at hL2
        obtain ⟨ix1,ix2,ix3,ix4⟩:=idx_in (a:=x.opt) (k:=(k:Int)) (c:=(cols:Int)) (n:=((m.cls.getD p.fst.toNat default).length:Int)) ⟨o3,o4⟩ (by omega) (by omega) (by omega)
        generalize hixx:(x.opt * cols+k:Int)=ix at *
        generalize htk:subK (fun k:Nat=>(x.opt * cols+k).toNat) x.amt k (g.2.getD x.pair.toNat default)=tk at *
        ((repeat' (first|refine Va (X5 @fx @hxx @rK1 @eMv.eq_1 (X4 @eNr.eq_1 @eNr_set @hixx @Int.sub_eq_add_neg)) ?_|(refine Xi ?_ ?_<;>try intro ht)|exact Xx|fail)))
        refine hnl2 _ (k+1,_) ⟨by dsimp only;omega,by rw[subK,htk,hixx];exact hL2⟩ (by dsimp only;omega) ?_
        exact Xv X0
      · have hkc:k=cols:=by omega
        rw[hkc] at hLk
        ((repeat' (first|refine Va X0 ?_|(refine Xi ?_ ?_<;>try intro ht)|exact Xx|fail)))
        refine hel2 _ _ rfl ?_
        clear hnl2 hel2 Ql2
        repeat (refine Xu ?_)
        refine Va X0 ?_
        refine hnl _ (i+1,_) ⟨by dsimp only;omega,by rw[hts,hstep];exact hLk.sub (by simp)⟩ (by dsimp only;omega) ?_
        exact Xv X0
    · have hc:mvC m x=(m.prs.getD x.pair.toNat default).snd:=by unfold mvC;rw[if_neg hs]
      rw[hc] at rD1 rD2 qd hSl o1 o2 o4
      have sd:=oSo rD1
      have hv1:=(NB_getD hlg.sb (m.prs.getD x.pair.toNat default).snd.toNat).get (by omega) x.opt.toNat
      have hF:mvF m x=(fun k:Nat=>((k:Int) * (m.cls.getD (m.prs.getD x.pair.toNat default).snd.toNat default).length+x.opt).toNat,(m.cls.getD (m.prs.getD x.pair.toNat default).fst.toNat default).length):=by unfold mvF;rw[if_neg hs]
      have hstep:mvS m x g=(g.1.set (m.prs.getD x.pair.toNat default).snd.toNat (addR (g.1.getD (m.prs.getD x.pair.toNat default).snd.toNat default) x.opt.toNat x.amt),g.2.set x.pair.toNat (subK (mvF m x).1 x.amt (mvF m x).2 (g.2.getD x.pair.toNat default))):=by unfold mvS;rw[hc]
      have hL1:=(hLO.setD (j:=(m.prs.getD x.pair.toNat default).snd.toNat) (by omega) (r:=addR (g.1.getD (m.prs.getD x.pair.toNat default).snd.toNat default) x.opt.toNat x.amt) (addR_len _ _ _)).vars (List.length_set ..) (.var (eMv x)) (.var (ePr (m.prs.getD x.pair.toNat default))) (by simp) (by simp)
      generalize hpp:m.prs.getD x.pair.toNat default=p at *
      generalize hcols:(m.cls.getD p.snd.toNat default).length=cols at *
      generalize hrows:(m.cls.getD p.fst.toNat default).length=rows at *
      ((repeat' (first|refine Va (X5 @f0 @fa @fb @e0 (X5 @ea @eb @hxx @hpp (X5 @hcols @hrows @eMv.eq_1 @ePr.eq_1 (X5 @eCls.eq_1 @eRf.eq_1 @eNr.eq_1 @rE1 (X5 @rD1 @qe @qd @sd (X5 @Oc2 @eNr_set @List.append_assoc.{0} @Nat.sub_self (X2 @Nat.add_zero @List.length_append.{0}))))))) ?_|(refine Xi ?_ ?_<;>try intro ht)|exact Xx|fail)))
      rw[hF] at hstep
      dsimp only at hstep
      refine W_loopS (fun z:Nat × List Ob=>(⟨slots [(1,.tree 1 (rowsOf eBs left)),(2,.tree 4 (rowsOf eMv l)),(3,.ptr 0 0 0),(10,.ref ai 1 0 D.length),(11,.ref bi 1 0 E.length),(14,.lit (.int .i64 i)),(15,.ptr os.length 0 0),(17,.lit (.int .i64 rows)),(18,.lit (.int .i64 cols)),(19,.ref (E.getD x.pair.toNat default).1 2 0 (E.getD x.pair.toNat default).2),(21,.lit (.int .i64 z.1))],z.2⟩:St))
        (fun z=>z.1≤rows∧LO eNr ((os.length,.var (eMv x))::(os.length+1,.var (ePr p))::[(0,.var (eMdl m)),(ai,.arr 1 (rowsOf eRf D)),(bi,.arr 1 (rowsOf eRf E))]) D E (g.1.set p.snd.toNat (addR (g.1.getD p.snd.toNat default) x.opt.toNat x.amt)) (g.2.set x.pair.toNat (subK (fun k:Nat=>((k:Int) * cols+x.opt).toNat) x.amt z.1 (g.2.getD x.pair.toNat default))) z.2)
        (fun z=>rows - z.1) (0,_) ⟨Nat.zero_le _,by rw[subK,set_self];exact hL1⟩ (Xv X0) ?_
      rintro ⟨k,ok⟩ ⟨hk,hLk⟩ Ql2 hnl2 hel2
      dsimp only at hk hLk ⊢
      have fx:=(hLk.base (os.length,.var (eMv x)) (by simp)).1
      dsimp only at fx
      obtain ⟨rK1,rK2⟩:=hLk.rE.row x.pair.toNat (by omega)
      have htlen:x.pair.toNat<g.2.length:=by rw[hlg.t];omega
      rw[getD_set _ _ _ htlen] at rK1 rK2
      have hsl:=subK_len (fun k:Nat=>((k:Int) * cols+x.opt).toNat) x.amt k (g.2.getD x.pair.toNat default)
      have hbd:=((NB_getD hlg.tb x.pair.toNat).sub (by omega) (fun k:Nat=>((k:Int) * cols+x.opt).toNat) (a:=x.amt) (by omega) k).get (by omega) ((k:Int) * cols+x.opt).toNat
      by_cases hk':k<rows
      · have hL2:=hLk.setE (j:=x.pair.toNat) (by omega) (r:=addR (subK (fun k:Nat=>((k:Int) * cols+x.opt).toNat) x.amt k (g.2.getD x.pair.toNat default)) ((k:Int) * cols+x.opt).toNat (-x.amt)) (by rw[getD_set _ _ _ htlen];exact addR_len _ _ _)
        rw[List.set_set] at hL2
        obtain ⟨ix1,ix2,ix3,ix4⟩:=idx_in (a:=(k:Int)) (k:=x.opt) (c:=(cols:Int)) (n:=(rows:Int)) (by omega) ⟨o3,o4⟩ (by omega) (by omega)
        generalize hixx:((k:Int) * cols+x.opt)=ix at *
        generalize htk:subK (fun k:Nat=>((k:Int) * cols+x.opt).toNat) x.amt k (g.2.getD x.pair.toNat default)=tk at *
        ((repeat' (first|refine Va (X5 @fx @hxx @rK1 @eMv.eq_1 (X4 @eNr.eq_1 @eNr_set @hixx @Int.sub_eq_add_neg)) ?_|(refine Xi ?_ ?_<;>try intro ht)|exact Xx|fail)))
        refine hnl2 _ (k+1,_) ⟨by dsimp only;omega,by rw[subK,htk,hixx];exact hL2⟩ (by dsimp only;omega) ?_
        exact Xv X0
      · have hkc:k=rows:=by omega
        rw[hkc] at hLk
        ((repeat' (first|refine Va X0 ?_|(refine Xi ?_ ?_<;>try intro ht)|exact Xx|fail)))
        refine hel2 _ _ rfl ?_
        clear hnl2 hel2 Ql2
        repeat (refine Xu ?_)
        refine Va X0 ?_
        refine hnl _ (i+1,_) ⟨by dsimp only;omega,by rw[hts,hstep];exact hLk.sub (by simp)⟩ (by dsimp only;omega) ?_
        exact Xv X0
  rw[List.take_of_length_le (by omega)] at hLO
  have hlg:=mvsL_lg hvm l hall
  have hl2000:l.length≤2000:=by omega
  generalize mvsL m l (S0 m,T0 m)=g at *
  have hlg2:(∀ r∈g.1,NB BIG r)∧∀ r∈g.2,NB BIG r:=⟨fun r hr=>(hlg.sb r hr).mono (by unfold BIG;omega),fun r hr=>(hlg.tb r hr).mono (by unfold BIG;omega)⟩
  ((repeat' (first|refine Va @f0 ?_|(refine Xi ?_ ?_<;>try intro ht)|exact Xx|fail)))
  refine hel _ _ rfl ?_;clear hnl hel Ql
  repeat (refine Xu ?_)
  refine Va @f0 ?_
  have hfl:=hf.1
  refine W_loopS (fun i:Nat=>(⟨slots [(1,.tree 1 (rowsOf eBs left)),(3,.ptr 0 0 0),(10,.ref ai 1 0 D.length),(11,.ref bi 1 0 E.length),(22,.lit (.int .i64 (accV (PC left g.1 i) (0,false)).1)),(23,.lit (.bool (accV (PC left g.1 i) (0,false)).2)),(24,.lit (.int .i64 i))],os⟩:St))
    (fun i=>i≤m.cls.length) (fun i=>m.cls.length - i) 0 (Nat.zero_le _) (Xv (X5 @PC.eq_1 @accV.eq_1 @List.range_zero @List.map_nil.{0,0} @List.foldl_nil.{0,0})) ?_
  rintro i hi Ql hnl hel
  by_cases hi':i<m.cls.length
  · have hrg:=accV_rg _ (0,false) (PC_rg (left:=left) (by unfold BIG;decide) hlg2.1 i)
    rw[PC_len] at hrg
    have hlen:=hf.2 i (by omega)
    have hrl:=hlg.sl i hi'
    have hsm:=smallest_ok (g.1.getD i default) (left.getD i default) (by omega) (by have:=hvm.opt _ (getD_mem (d:=default) hi');omega)
    have hsr:=lowN_rg (g.1.getD i default) (left.getD i default) (0,false) (NB_getD hlg2.1 i) (by unfold BIG;decide)
    have hst:accV (PC left g.1 (i+1)) (0,false)=((accV (PC left g.1 i) (0,false)).1+(lowN (g.1.getD i default) (left.getD i default) (0,false)).1,(accV (PC left g.1 i) (0,false)).2 || !(lowN (g.1.getD i default) (left.getD i default) (0,false)).2):=by
      rw[show PC left g.1 (i+1)=PC left g.1 i++[lowN (g.1.getD i default) (left.getD i default) (0,false)] from range_snoc _ i,accV_snoc]
    obtain ⟨rD1,rD2⟩:=hLO.rD.row i (by omega)
    generalize accV (PC left g.1 i) (0,false)=z at *
    obtain ⟨z1,z2⟩:=z
    generalize lowN (g.1.getD i default) (left.getD i default) (0,false)=q at *
    obtain ⟨q1,q2⟩:=q
    unfold BIG at hrg hsr
    dsimp only at *
    generalize hll:left.getD i default=ll at *
    ((repeat' (first|refine Va (X5 @f0 @fa @rD1 @eRf.eq_1 (X2 @hll @eBs.eq_1)) ?_|(refine Xi ?_ ?_<;>try intro ht)|exact Xx|fail))<;>try with_reducible intro K hK)
    cases z2<;>cases q2
    all_goals
      refine callK_snap [] hsm (by simp) trivial ⟨ArgR.fz rD1 (by rw[rows_length];exact rD2.symm) (by simp),.pure rfl,trivial⟩ rfl (by simp) ?_
      ((try revert hK K);(repeat' (first|refine Va (X4 @f0 @fa @Bool.not_true @Bool.not_false) ?_|fail)))
      refine hnl _ (i+1) (by omega) (by omega) ?_
      simp only[hst]
      exact Xv X0
  have hiC:i=m.cls.length:=by omega
  rw[hiC]
  have hrgC:=accV_rg _ (0,false) (PC_rg (left:=left) (by unfold BIG;decide) hlg2.1 m.cls.length)
  rw[PC_len] at hrgC
  unfold valV at hres
  generalize accV (PC left g.1 m.cls.length) (0,false)=zc at *
  ((repeat' (first|refine Va @f0 ?_|(refine Xi ?_ ?_<;>try intro ht)|exact Xx|fail)))
  refine hel _ _ rfl ?_;clear hnl hel Ql
  repeat (refine Xu ?_)
  refine Va @f0 ?_
  clear hi hi'
  have hLO2:LO eNr [(0,.var (eMdl m)),(bi,.arr 1 (rowsOf eRf E))] D E g.1 g.2 os:=hLO.sub (by simp)
  refine W_loopS (fun z:Nat × List Ob=>(⟨slots [(1,.tree 1 (rowsOf eBs left)),(3,.ptr 0 0 0),(11,.ref bi 1 0 E.length),(22,.lit (.int .i64 (accV (PP m left g.2 z.1) zc).1)),(23,.lit (.bool (accV (PP m left g.2 z.1) zc).2)),(27,.lit (.int .i64 z.1))],z.2⟩:St))
    (fun z=>z.1≤m.prs.length∧LO eNr [(0,.var (eMdl m)),(bi,.arr 1 (rowsOf eRf E))] D E g.1 g.2 z.2) (fun z=>m.prs.length - z.1) (0,os) ⟨Nat.zero_le _,hLO2⟩ (Xv (X5 @PP.eq_1 @accV.eq_1 @List.range_zero @List.map_nil.{0,0} @List.foldl_nil.{0,0})) ?_
  clear hLO hLO2 f0 fa fb e0 ea eb os
  rintro ⟨i,os⟩ ⟨hi,hLO⟩ Ql hnl hel
  dsimp only at hi hLO ⊢
  have f0:=(hLO.base (0,.var (eMdl m)) (by simp)).1
  have fb:=(hLO.base (bi,.arr 1 (rowsOf eRf E)) (by simp)).1
  dsimp only at f0 fb
  have e0:=oLo f0
  have eb:=oLo fb
  by_cases hi':i<m.prs.length
  · have hpb:=prsL_mem hvm.pr _ (getD_mem (d:=default) hi')
    obtain ⟨pb1,pb2,pb3,pb4⟩:=pairB_in hpb
    have hrg:=accV_rg _ zc (PP_rg (m:=m) (left:=left) (by unfold BIG;decide) hlg2.2 i)
    rw[PP_len] at hrg
    have hst:accV (PP m left g.2 (i+1)) zc=((accV (PP m left g.2 i) zc).1+(lowN (g.2.getD i default) (prB m left i) (0,false)).1,(accV (PP m left g.2 i) zc).2 || !(lowN (g.2.getD i default) (prB m left i) (0,false)).2):=by
      rw[show PP m left g.2 (i+1)=PP m left g.2 i++[lowN (g.2.getD i default) (prB m left i) (0,false)] from range_snoc _ i,accV_snoc]
    have hsr:=lowN_rg (g.2.getD i default) (prB m left i) (0,false) (NB_getD hlg2.2 i) (by unfold BIG;decide)
    have hla:=hf.2 (m.prs.getD i default).fst.toNat (by omega)
    have hlb:=hf.2 (m.prs.getD i default).snd.toNat (by omega)
    have hoa:=hvm.opt _ (getD_mem (l:=m.cls) (i:=(m.prs.getD i default).fst.toNat) (d:=default) (by omega))
    have hob:=hvm.opt _ (getD_mem (l:=m.cls) (i:=(m.prs.getD i default).snd.toNat) (d:=default) (by omega))
    have hrl:=hlg.tl i hi'
    have hbl:(g.2.getD i default).length=(prB m left i).length:=by
      unfold prB;rw[bothV_len,hla,hlb,hrl]
      have:=pb4
      rw[← Int.natCast_mul] at this
      exact Int.ofNat_inj.1 this
    have htl:=pairB_tab hpb hvm
    have hsm:=smallest_ok (g.2.getD i default) (prB m left i) hbl (by omega)
    have hprB:prB m left i=bothV (left.getD (m.prs.getD i default).fst.toNat default) (left.getD (m.prs.getD i default).snd.toNat default):=rfl
    generalize lowN (g.2.getD i default) (prB m left i) (0,false)=q at *
    generalize accV (PP m left g.2 i) zc=z at *
    generalize prB m left i=pb at *
    generalize hpp:m.prs.getD i default=p at *
    generalize hLA:left.getD p.fst.toNat default=la at *
    generalize hLB:left.getD p.snd.toNat default=lb at *
    obtain ⟨z1,z2⟩:=z
    obtain ⟨q1,q2⟩:=q
    unfold BIG at hrg hsr hrgC
    dsimp only at hst hrg hsr hsm ⊢
    ((repeat' (first|refine Va (X4 @f0 @fb @hpp @Oc2) ?_|(refine Xi ?_ ?_<;>try intro ht)|exact Xx|fail)))
    have hLv:LO eNr ((os.length,.var (ePr p))::[(0,.var (eMdl m)),(bi,.arr 1 (rowsOf eRf E))]) D E g.1 g.2 ((os++[.var (ePr p)])++[.arr 1 []]):=((hLO.app _).app _).add (oLo (oL0 _ _ _) _) (by simp)
    refine W_loopS (fun y:Nat × List Ob × Nat × List Bool=>(⟨slots [(1,.tree 1 (rowsOf eBs left)),(3,.ptr 0 0 0),(11,.ref bi 1 0 E.length),(22,.lit (.int .i64 z1)),(23,.lit (.bool z2)),(27,.lit (.int .i64 i)),(28,.ptr os.length 0 0),(29,.ref y.2.2.1 1 0 y.2.2.2.length),(30,.lit (.int .i64 y.1))],y.2.1⟩:St))
      (fun y=>y.1≤la.length∧LO eNr ((os.length,.var (ePr p))::[(0,.var (eMdl m)),(bi,.arr 1 (rowsOf eRf E))]) D E g.1 g.2 y.2.1∧y.2.1[y.2.2.1]?=some (.arr 1 (bools y.2.2.2))∧os.length<y.2.2.1∧y.2.2.2=bothV (la.take y.1) lb)
      (fun y=>la.length - y.1) (0,(os++[.var (ePr p)])++[.arr 1 []],(os++[Ob.var (ePr p)]).length,[]) ⟨Nat.zero_le _,hLv,oL0 _ _ _,by simp,rfl⟩ ?_ ?_
    · refine Turns.trans (Turns.nil 29 1 (by simp only[Kc,simprocAttr]) (by decide)) ?_
      exact Xv X0
    clear hLv
    rintro ⟨a,oy,ti,bs⟩ ⟨ha,hLy,fti,hti,hbs⟩ Ql2 hnl2 hel2
    dsimp only at ha hLy fti hti hbs ⊢
    have fp:=(hLy.base (os.length,.var (ePr p)) (by simp)).1
    have fby:=(hLy.base (bi,.arr 1 (rowsOf eRf E)) (by simp)).1
    have bil:=(List.getElem?_eq_some_iff.1 fb).1
    have osl:=(List.getElem?_eq_some_iff.1 f0).1
    dsimp only at fp fby
    by_cases ha':a<la.length
    · ((repeat' (first|refine Va (X5 @fp @hpp @hLA @eBs.eq_1 @ePr.eq_1) ?_|(refine Xi ?_ ?_<;>try intro ht)|exact Xx|fail)))
      have hta:=take_snoc ha'
      refine W_loopS (fun y:Nat × List Ob × Nat × List Bool=>(⟨slots [(1,.tree 1 (rowsOf eBs left)),(3,.ptr 0 0 0),(11,.ref bi 1 0 E.length),(22,.lit (.int .i64 z1)),(23,.lit (.bool z2)),(27,.lit (.int .i64 i)),(28,.ptr os.length 0 0),(29,.ref y.2.2.1 1 0 y.2.2.2.length),(30,.lit (.int .i64 a)),(31,.lit (.int .i64 y.1))],y.2.1⟩:St))
        (fun y=>y.1≤lb.length∧LO eNr ((os.length,.var (ePr p))::[(0,.var (eMdl m)),(bi,.arr 1 (rowsOf eRf E))]) D E g.1 g.2 y.2.1∧y.2.1[y.2.2.1]?=some (.arr 1 (bools y.2.2.2))∧os.length<y.2.2.1∧y.2.2.2=bs++(lb.take y.1).map (la.getD a default && ·))
        (fun y=>lb.length - y.1) (0,oy,ti,bs) ⟨Nat.zero_le _,hLy,fti,hti,by simp⟩ (Xv X0) ?_
      rintro ⟨b,ob,tb,cs⟩ ⟨hb',hLb,ftb,htb,hcs⟩ Ql3 hnl3 hel3
      dsimp only at hb' hLb ftb htb hcs ⊢
      have fpb:=(hLb.base (os.length,.var (ePr p)) (by simp)).1
      dsimp only at fpb
      have eti:=oLo ftb
      have epb:=oLo fpb
      have stb:=oSo ftb
      have hcl:cs.length≤24 * 24+24:=by
        rw[hcs,hbs,List.length_append,bothV_len,List.length_map,List.length_take,List.length_take]
        have:=Nat.mul_le_mul (show min a la.length≤24 by omega) (show lb.length≤24 by omega)
        omega
      by_cases hb2:b<lb.length
      · have htb2:=take_snoc hb2
        have hLn:=((hLb.kill (y:=.gone) ftb (by simp) (by simp only[List.mem_cons,List.not_mem_nil,or_false,forall_eq_or_imp,forall_eq];omega)).app [.arr 1 [[.lit (.bool (la.getD a false && lb.getD b false))]],.arr 1 (bools (cs++[la.getD a false && lb.getD b false]))])
        have hcn:cs++[la.getD a false && lb.getD b false]=bs++(lb.take (b+1)).map (la.getD a default && ·):=by rw[htb2,List.map_append,← List.append_assoc,← hcs];rfl
        have htbl:=(List.getElem?_eq_some_iff.1 ftb).1
        generalize hxa:la.getD a false=xa at *
        generalize hxb2:lb.getD b false=xb at *
        cases xa
        all_goals
          simp only[Bool.false_and,Bool.true_and] at hLn hcn
          ((repeat' (first|refine Va (X5 @fpb @ftb @eti @epb (X5 @stb @hpp @hLA @hLB (X5 @hxa @hxb2 @eBs.eq_1 @ePr.eq_1 (X5 @Oc2 @List.append_assoc.{0} @Nat.sub_self @Nat.add_zero (X3 @List.length_append.{0} @List.length_set.{0} @bools_app1))))) ?_|(refine Xi ?_ ?_<;>try intro ht)|exact Xx|fail)))
          refine hnl3 _ (b+1,_,ob.length+1,_) ⟨by dsimp only;omega,hLn,oLs _ _ _ _ _,by dsimp only;omega,hcn⟩ (by dsimp only;omega) ?_
          exact Xv X0
      · rw[List.take_of_length_le (by omega)] at hcs
        ((repeat' (first|refine Va (X5 @fpb @hpp @hLB @eBs.eq_1 @ePr.eq_1) ?_|(refine V2 (X5 @fpb @hpp @hLB @eBs.eq_1 @ePr.eq_1) ?_ ?_<;>try with_reducible intro hb)|(refine Xi ?_ ?_<;>try intro ht)|exact Xx|fail)))
        refine hel3 _ _ rfl ?_
        clear hnl3 hel3 Ql3
        repeat (refine Xu ?_)
        refine Va X0 ?_
        refine hnl2 _ (a+1,ob,tb,cs) ⟨by dsimp only;omega,hLb,ftb,htb,by rw[hta,bothV_snoc,← hbs];exact hcs⟩ (by dsimp only;omega) ?_
        exact Xv X0
    · rw[List.take_of_length_le (by omega),← hprB] at hbs
      subst hbs
      obtain ⟨rE1,rE2⟩:=hLy.rE.row i (by omega)
      ((repeat' (first|refine Va (X5 @fp @hpp @hLA @eBs.eq_1 @ePr.eq_1) ?_|(refine Xi ?_ ?_<;>try intro ht)|exact Xx|fail)))
      refine hel2 _ _ rfl ?_
      clear hnl2 hel2 Ql2
      repeat (refine Xu ?_)
      ((refine Va (X3 @fby @rE1 @eRf.eq_1) ?_)<;>try with_reducible intro K hK)
      cases z2<;>cases q2
      all_goals
        refine callK_snap [] hsm (by simp) trivial ⟨ArgR.fz rE1 (by rw[rows_length];exact rE2.symm) (by simp),ArgR.fz fti (by rw[bools_length]) (by simp),trivial⟩ rfl (by simp) ?_
        ((try revert hK K);(repeat' (first|refine Va (X2 @Bool.not_true @Bool.not_false) ?_|fail)))
        refine hnl _ (i+1,oy) ⟨by dsimp only;omega,hLy.sub (by simp)⟩ (by dsimp only;omega) ?_
        simp only[hst]
        exact Xv X0
  have hiP:i=m.prs.length:=by omega
  rw[hiP]
  have hrgP:=accV_rg _ zc (PP_rg (m:=m) (left:=left) (by unfold BIG;decide) hlg2.2 m.prs.length)
  rw[PP_len] at hrgP
  generalize accV (PP m left g.2 m.prs.length) zc=zp at *
  ((repeat' (first|refine Va @f0 ?_|(refine Xi ?_ ?_<;>try intro ht)|exact Xx|fail)))
  refine hel _ _ rfl ?_;clear hnl hel Ql
  repeat (refine Xu ?_)
  refine Va @f0 ?_
  clear hi hi'
  refine W_loopS (fun i:Nat=>(⟨slots [(1,.tree 1 (rowsOf eBs left)),(3,.ptr 0 0 0),(22,.lit (.int .i64 (accV (PK m left i) zp).1)),(23,.lit (.bool (accV (PK m left i) zp).2)),(34,.lit (.int .i64 i))],os⟩:St))
    (fun i=>i≤m.cts.length) (fun i=>m.cts.length - i) 0 (Nat.zero_le _) (Xv (X5 @PK.eq_1 @accV.eq_1 @List.range_zero @List.map_nil.{0,0} @List.foldl_nil.{0,0})) ?_
  rintro i hi Ql hnl hel
  unfold BIG at hrgC hrgP
  dsimp only at hrgC hrgP
  by_cases hi':i<m.cts.length
  · have hcm:=getD_mem (d:=default) hi'
    obtain ⟨q1,q2,q3,q4⟩:=ctB_lds hvm hf hcm
    have h3:=refExcess_ok m left _ hvm hf hcm
    have hlr:=lowS_rg (fun x hx=>(q1 x hx).2) left
    have h4:=times_ok (lowS (m.cts.getD i default).loads 0 left 0 - (m.cts.getD i default).most) (m.cts.getD i default).pen (by omega) q3
    rw[times_exc q3] at h4
    have hrg:=accV_rg _ zp (PK_rg hvm (left:=left) i)
    rw[PK_len] at hrg
    have hvr:=excV_rg (m.cts.getD i default).most (m.cts.getD i default).pen (lowS (m.cts.getD i default).loads 0 left 0) q2 q3.1
    have hst:accV (PK m left (i+1)) zp=((accV (PK m left i) zp).1+leastV left (m.cts.getD i default),(accV (PK m left i) zp).2 || !!(decide ((m.cts.getD i default).pen=1099511627776) && decide (0<leastV left (m.cts.getD i default)))):=by
      rw[show PK m left (i+1)=PK m left i++[(leastV left (m.cts.getD i default),!(decide ((m.cts.getD i default).pen=1099511627776) && decide (0<leastV left (m.cts.getD i default))))] from range_snoc _ i,accV_snoc]
    unfold leastV at hst
    generalize accV (PK m left i) zp=z at *
    obtain ⟨z1,z2⟩:=z
    generalize hcc:m.cts.getD i default=c at *
    generalize excV c.most c.pen (lowS c.loads 0 left 0)=v at *
    dsimp only at hst hrg ⊢
    by_cases hpen:c.pen=1099511627776
    all_goals
      by_cases hv0:0<v
    all_goals
      simp only[hpen,hv0,decide_true,decide_false,Bool.and_true,Bool.and_false,Bool.not_true,Bool.not_false,Bool.or_true,Bool.or_false] at hst
      cases z2
    all_goals
      ((repeat' (first|refine Vc (X3 @f0 @hcc @eCt.eq_1) (X2 h3 h4) ?_|(refine V2 (X3 @f0 @hcc @eCt.eq_1) ?_ ?_<;>try with_reducible intro hb)|(refine Xi ?_ ?_<;>try intro ht)|exact Xx|fail)))
      refine hnl _ (i+1) (by omega) (by omega) ?_
      simp only[hst]
      exact Xv (X4 @gt_iff_lt.{0} @hv0 @decide_true @decide_false)
  · have hiK:i=m.cts.length:=by omega
    rw[hiK]
    have hrgK:=accV_rg _ zp (PK_rg hvm (left:=left) m.cts.length)
    rw[PK_len] at hrgK
    generalize accV (PK m left m.cts.length) zp=zk at *
    obtain ⟨k1,k2⟩:=zk
    dsimp only at hres hrgK ⊢
    ((repeat' (first|refine Va @f0 ?_|(refine Xi ?_ ?_<;>try intro ht)|exact Xx|fail)))
    refine hel _ _ rfl ?_;clear hnl hel Ql
    repeat (refine Xu ?_)
    cases k2
    · simp only[Bool.false_eq_true,if_false] at hres
      subst hres
      ((repeat' (first|refine Vb @f0 ?_|(refine Xi ?_ ?_<;>try intro ht)|exact Xx|fail)))
      exact RetOK_pure' rfl rfl
    · simp only[if_true] at hres
      subst hres
      ((repeat' (first|refine Vb @f0 ?_|(refine Xi ?_ ?_<;>try intro ht)|exact Xx|fail)))
      exact RetOK_pure' rfl rfl
end T

