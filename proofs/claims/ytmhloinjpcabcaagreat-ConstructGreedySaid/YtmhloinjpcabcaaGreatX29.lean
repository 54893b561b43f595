import Derived.Test.YtmhloinjpcabcaaGreatX28
import Derived.Test.YtmhloinjpcabcaaGreatX23
set_option linter.unusedVariables false
set_option linter.unusedSimpArgs false
set_option linter.unnecessarySimpa false
set_option linter.unusedSectionVars false
set_option maxHeartbeats 64000000
set_option maxRecDepth 20000
open Go Go.Am
namespace T
def nnL (l:List Int):Nat:=l.countP fun x=>decide (0≤x)
def ejOne (n:Nat) (c:Ct) (cl:Int):Nat→List Int→Option (List Int)
  | 0,nx=>some nx
  | f+1,nx=>if hardB c=true∧0<excN nx c then (if heavR c.loads nx cl n 0 (-1)<0 then none else ejOne n c cl f (nx.set (heavR c.loads nx cl n 0 (-1)).toNat (-1))) else some nx
def ejCts (n:Nat) (cl:Int):List Ct→List Int→Option (List Int)
  | [],nx=>some nx
  | c::r,nx=>(ejOne n c cl (nnL nx+1) nx).bind (ejCts n cl r)
def goneL:Nat→List Int→List Int→List Int
  | _,[],_=>[]
  | i,o::r,nx=>if 0≤o∧nx.getD i 0<0 then (i:Int)::goneL (i+1) r nx else goneL (i+1) r nx
def ejV (m:Mdl) (plan:List Int) (cl o:Int):Option (List Int × List Int) :=
  if freeB ((m.cls.getD cl.toNat default).getD o.toNat default)=true then (ejCts m.cls.length cl m.cts (ejRef m cl o m.cls.length 0 (plan.set cl.toNat o))).map fun nx=>(nx,goneL 0 plan nx) else none
def ejT (m:Mdl) (plan:List Int) (cl o:Int):List Int × List Int × Int :=
  if validV m≠0 then ([],[],validV m) else if plannedV m plan=false then ([],[],17) else if optB m cl o=false then ([],[],3) else
    match ejV m plan cl o with
    | none=>([],[],60)
    | some r=>(r.1,r.2,0)
theorem nnL_set:∀ (l:List Int) (i:Nat),i<l.length→0≤l.getD i 0→nnL (l.set i (-1))+1=nnL l
  | [],i,h,_=>by simp at h
  | x::r,0,_,h=>by
    rw[List.getD_cons_zero] at h
    unfold nnL
    rw[List.set_cons_zero,List.countP_cons_of_neg (by decide),List.countP_cons_of_pos (by rw[decide_eq_true_eq];exact h)]
  | x::r,i+1,h,h2=>by
    have:=nnL_set r i (by simpa using h) (by simpa using h2)
    unfold nnL at this ⊢
    rw[List.set_cons_succ,List.countP_cons,List.countP_cons]
    omega
theorem wtA_nn {m:Mdl} {c:Ct} (hc:ctB m c=true) {nx:List Int} {g:Int} (h:0<wtA c.loads nx g):0≤g∧g<m.cls.length∧optB m g (nx.getD g.toNat 0)=true:=by
  unfold wtA at h
  by_cases h1 :∃y∈c.loads,y.cls=g∧y.opt=nx.getD g.toNat 0
  · obtain ⟨y,hy,e1,e2⟩:=h1
    have:=(ldL_mem (ctB_iff hc).2.2.2 y hy).1
    rw[e1,e2] at this
    have h2:=optB_iff.1 this
    exact⟨h2.1,h2.2.1,this⟩
  · rw[wtV_none _ _ _ (fun y hy e=>h1 ⟨y,hy,e⟩)] at h;omega
theorem heav_nn {m:Mdl} {c:Ct} (hc:ctB m c=true) {nx:List Int} {cl:Int} (h:¬ heavR c.loads nx cl m.cls.length 0 (-1)<0) :
    0≤heavR c.loads nx cl m.cls.length 0 (-1)∧heavR c.loads nx cl m.cls.length 0 (-1)<m.cls.length∧heavR c.loads nx cl m.cls.length 0 (-1)≠cl∧0≤nx.getD (heavR c.loads nx cl m.cls.length 0 (-1)).toNat 0:=by
  have h2:=heavR_hv (ls:=c.loads) (nx:=nx) (cl:=cl) m.cls.length 0 (-1) (.inl ⟨rfl,fun k h0 hk=>by omega⟩)
  rw[Nat.zero_add] at h2
  generalize heavR c.loads nx cl m.cls.length 0 (-1)=g at *
  rcases h2 with ⟨g1,g2⟩ | ⟨g1,g2,g3,g4,g5⟩
  · omega
  · have:=(optB_iff.1 (wtA_nn hc g4).2.2).2.2.1
    exact⟨g1,g2,g3,this⟩
theorem ejOne_step {m:Mdl} {c:Ct} (hc:ctB m c=true) {cl:Int} {nx:List Int} (hl:nx.length=m.cls.length):ejOne m.cls.length c cl (nnL nx+1) nx =
    if hardB c=true∧0<excN nx c then (if heavR c.loads nx cl m.cls.length 0 (-1)<0 then none else
      ejOne m.cls.length c cl (nnL (nx.set (heavR c.loads nx cl m.cls.length 0 (-1)).toNat (-1))+1) (nx.set (heavR c.loads nx cl m.cls.length 0 (-1)).toNat (-1))) else some nx:=by
  rw[ejOne]
  by_cases h1:hardB c=true∧0<excN nx c
  · rw[if_pos h1,if_pos h1]
    by_cases h2:heavR c.loads nx cl m.cls.length 0 (-1)<0
    · rw[if_pos h2,if_pos h2]
    · rw[if_neg h2,if_neg h2]
      have hg:=heav_nn hc h2
      have hs:=nnL_set nx (heavR c.loads nx cl m.cls.length 0 (-1)).toNat (by omega) hg.2.2.2
      rw[hs]
  · rw[if_neg h1,if_neg h1]
def bump (out:List Int) (i:Int):List Int:=out.set i.toNat (out.getD i.toNat 0+1)
def brOwn (m:Mdl):Nat→List Int→List Int→List Int
  | _,[],out=>out
  | i,o::r,out=>brOwn m (i+1) r (if 0≤o∧freeB ((m.cls.getD i default).getD o.toNat default)=false then bump out i else out)
def brPrs (m:Mdl) (plan:List Int):List Pr→List Int→List Int
  | [],out=>out
  | p::r,out=>brPrs m plan r (if (0≤plan.getD p.fst.toNat 0∧0≤plan.getD p.snd.toNat 0)∧entryV m p (plan.getD p.fst.toNat 0) (plan.getD p.snd.toNat 0)=1099511627776 then bump (bump out p.fst) p.snd else out)
def brLd (plan:List Int):List Ld→List Int→List Int
  | [],out=>out
  | l::r,out=>brLd plan r (if plan.getD l.cls.toNat 0=l.opt then bump out l.cls else out)
def brCts (plan:List Int):List Ct→List Int→List Int
  | [],out=>out
  | c::r,out=>brCts plan r (if hardB c=false∨excN plan c=0 then out else brLd plan c.loads out)
def breaksV (m:Mdl) (plan:List Int):List Int:=brCts plan m.cts (brPrs m plan m.prs (brOwn m 0 plan (List.replicate plan.length 0)))
def breaksT (m:Mdl) (plan:List Int):List Int × Int:=if validV m≠0 then ([],validV m) else if plannedV m plan=false then ([],17) else (breaksV m plan,0)
theorem bump_len (out:List Int) (i:Int):(bump out i).length=out.length:=by unfold bump;simp
theorem plcV_spec (f:Nat→Int):∀ (n k:Nat) (l b:Int),(plcV f n k l b=b∧∀ j,k≤j→j<k+n→l≤f j)∨∃ j,k≤j∧j<k+n∧plcV f n k l b=j∧f j<l
  | 0,k,l,b=>.inl ⟨rfl,fun j h1 h2=>by omega⟩
  | n+1,k,l,b=>by
    rw[plcV]
    by_cases h:f k<l
    · rw[if_pos h]
      rcases plcV_spec f n (k+1) (f k) k with ⟨h1,h2⟩ | ⟨j,h1,h2,h3,h4⟩
      · exact .inr ⟨k,Nat.le_refl _,by omega,h1,h⟩
      · exact .inr ⟨j,by omega,by omega,h3,by omega⟩
    · rw[if_neg h]
      rcases plcV_spec f n (k+1) l b with ⟨h1,h2⟩ | ⟨j,h1,h2,h3,h4⟩
      · refine .inl ⟨h1,fun j h3 h4=>?_⟩
        by_cases hj:j=k
        · subst hj;omega
        · exact h2 j (by omega) (by omega)
      · exact .inr ⟨j,by omega,by omega,h3,h4⟩
theorem plcM_none {m:Mdl} {plan:List Int} {c:Nat} (h:plcM m plan c = -1):∀ k:Nat,k<(m.cls.getD c default).length→1099511627776≤costP m (plan.set c (k:Int)):=fun k hk=>by
  rcases plcV_spec (chgF m plan c) (m.cls.getD c default).length 0 1099511627776 (-1) with ⟨h1,h2⟩ | ⟨j,h1,h2,h3,h4⟩
  · exact h2 k (Nat.zero_le _) (by omega)
  · change plcM m plan c=_ at h3;omega
theorem plcM_some {m:Mdl} {plan:List Int} {c:Nat} (h:plcM m plan c≠-1):costP m (plan.set c (plcM m plan c))<1099511627776:=by
  rcases plcV_spec (chgF m plan c) (m.cls.getD c default).length 0 1099511627776 (-1) with ⟨h1,h2⟩ | ⟨j,h1,h2,h3,h4⟩
  · exact absurd h1 h
  · change plcM m plan c=_ at h3
    rw[h3];exact h4
structure SatI (m:Mdl) (plan:List Int) (done:List Bool):Prop where
  pm:PM m plan
  low:costP m plan<1099511627776
  wait:∀ c,c<m.cls.length→done.getD c false=false→plan.getD c 0 = -1
  not:∀ c,c<m.cls.length→done.getD c false=true→plan.getD c 0 = -1→∀ k:Nat,k<(m.cls.getD c default).length→1099511627776≤costP m (plan.set c (k:Int))
theorem Up.set2 {p q:List Int} (h:Up p q) (c:Nat) (o:Int):Up (p.set c o) (q.set c o):=by
  refine⟨by rw[List.length_set,List.length_set];exact h.1,fun j=>?_⟩
  rw[getD_setI,getD_setI,h.1]
  split
  · exact .inl rfl
  · exact h.2 j
theorem set_selfW {plan:List Int} {c:Nat} {x:Int} (hc:c<plan.length) (h:plan.getD c 0=x):plan.set c x=plan:=by
  rw[List.getD_eq_getElem?_getD,List.getElem?_eq_getElem hc,Option.getD_some] at h
  rw[← h];exact List.set_getElem_self hc
theorem SatI.step {m:Mdl} (hm:VM m) {plan:List Int} {done:List Bool} (h:SatI m plan done) (hd:done.length=m.cls.length) {c:Nat} (hc:c<m.cls.length) (hw:done.getD c false=false):SatI m (plan.set c (plcM m plan c)) (done.set c true):=by
  have hl:=h.pm.len
  have hpc:=h.wait c hc hw
  by_cases hx:plcM m plan c = -1
  · rw[hx,set_selfW (by omega) hpc]
    refine⟨h.pm,h.low,fun d hd1 hd2=>?_,fun d hd1 hd2 hd3=>?_⟩
    · rw[getD_set' _ _ _ _ _ (by omega)] at hd2
      by_cases e:c=d
      · rw[if_pos e] at hd2;simp at hd2
      · rw[if_neg e] at hd2;exact h.wait d hd1 hd2
    · rw[getD_set' _ _ _ _ _ (by omega)] at hd2
      by_cases e:c=d
      · subst e;exact plcM_none hx
      · rw[if_neg e] at hd2;exact h.not d hd1 hd2 hd3
  · refine⟨plcM_pm h.pm hc,plcM_some hx,fun d hd1 hd2=>?_,fun d hd1 hd2 hd3 k hk=>?_⟩
    · rw[getD_set' _ _ _ _ _ (by omega)] at hd2 ⊢
      by_cases e:c=d
      · rw[if_pos e] at hd2;simp at hd2
      · rw[if_neg e] at hd2 ⊢;exact h.wait d hd1 hd2
    · rw[getD_set' _ _ _ _ _ (by omega)] at hd2 hd3
      by_cases e:c=d
      · rw[if_pos e] at hd3;exact absurd hd3 hx
      · rw[if_neg e] at hd2 hd3
        have:=h.not d hd1 hd2 hd3 k hk
        have hu:Up (plan.set d (k:Int)) ((plan.set c (plcM m plan c)).set d (k:Int)):=(Up.set (plcM m plan c) hpc).set2 d k
        have:=totalL_le hm hu
        unfold costP at *
        omega
theorem low_none {m:Mdl} (hm:VM m):costP m (noneV m)<1099511627776:=by
  have h1:∀ (n i:Nat) (s:Int),tPlan m i (List.replicate n (-1)) s=s:=by
    intro n
    induction n with
    | zero=>intro i s;rfl
    | succ n ih=>intro i s;rw[List.replicate_succ,tPlan,if_pos (by decide),ih]
  have hg:∀ k,(noneV m).getD k 0 = -1∨m.cls.length≤k:=fun k=>by
    rcases Nat.lt_or_ge k m.cls.length with h | h
    · left
      unfold noneV
      rw[List.getD_eq_getElem?_getD,List.getElem?_replicate,if_pos h];rfl
    · exact .inr h
  have h2:∀ (l:List Pr) (s:Int),(∀ p∈l,pairB m p=true)→tPrs m (noneV m) l s=s:=by
    intro l
    induction l with
    | nil=>intro s _;rfl
    | cons p r ih =>
      intro s hp
      obtain ⟨q1,q2,q3,q4,q5⟩:=pairB_iff (hp p (by simp))
      rw[tPrs,if_neg,ih _ fun x hx=>hp x (by simp[hx])]
      rintro ⟨h,_⟩
      rcases hg p.fst.toNat with e | e
      · rw[e] at h;omega
      · omega
  have h3:∀ (l:List Ld) (n:Int),(∀ x∈l,optB m x.cls x.opt=true)→loadS (noneV m) l n=n:=by
    intro l
    induction l with
    | nil=>intro n _;rfl
    | cons x r ih =>
      intro n hx
      have ho:=optB_iff.1 (hx x (by simp))
      rw[loadS,if_neg,ih _ fun y hy=>hx y (by simp[hy])]
      rcases hg x.cls.toNat with e | e
      · rw[e];omega
      · omega
  have h4:∀ (l:List Ct) (s:Int),(∀ c∈l,ctB m c=true)→In41 s→tCts (noneV m) l s=s:=by
    intro l
    induction l with
    | nil=>intro s _ _;rfl
    | cons c r ih =>
      intro s hc hs
      obtain ⟨q1,q2,q3,q4⟩:=ctB_iff (hc c (by simp))
      have e:excN (noneV m) c=0:=by
        unfold excN
        rw[h3 _ _ fun x hx=>(ldL_mem q4 x hx).1]
        omega
      rw[tCts,e]
      have:timesV 0 c.pen=0:=by unfold timesV;rw[if_pos (by omega)]
      rw[this]
      unfold In41 at hs
      rw[show addC s 0=s by unfold addC;omega]
      exact ih _ (fun x hx=>hc x (by simp[hx])) hs
  unfold costP
  rw[← totW_eq hm]
  unfold totW
  rw[show tPlan m 0 (noneV m) 0=0 from h1 _ _ _,h2 _ _ (prsL_mem hm.pr),h4 _ _ hm.ct (by unfold In41;decide)]
  decide
theorem satI0 {m:Mdl} (hm:VM m):SatI m (noneV m) (List.replicate m.cls.length false):=⟨noneV_pm m,low_none hm,fun c hc _=>by
  unfold noneV
  rw[List.getD_eq_getElem?_getD,List.getElem?_replicate,if_pos hc];rfl,fun c hc h=>by
  rw[List.getD_eq_getElem?_getD,List.getElem?_replicate,if_pos hc] at h;simp at h⟩
theorem satR_I {m:Mdl} (hm:VM m) {nb:List Int}:∀ (r:Nat) (plan:List Int) (done:List Bool) (w:List It),WD nb m.cls.length done w→w.length=r→SatI m plan done→∃ done',(∀ c,c<m.cls.length→done'.getD c false=true)∧SatI m (satR m nb r plan done) done'
  | 0,plan,done,w,h,hw,hi=>by
    refine⟨done,fun c hc=>?_,hi⟩
    cases hd:done.getD c false with
    | true=>rfl
    | false =>
      obtain ⟨x,hx,_⟩:=(h.mem c hc).1 hd
      rw[List.eq_nil_of_length_eq_zero hw] at hx
      cases hx
  | r+1,plan,done,w,h,hw,hi=>by
    obtain ⟨h1,h2,h3,h4,h5⟩:=rnd_pick (plan:=plan) h (by omega)
    rw[satR,← h2,← h1]
    rw[← h1] at h3
    have hmem:done.getD (rndP m plan w).1.cls.toNat false=false:=by
      cases hd:done.getD (rndP m plan w).1.cls.toNat false with
      | false=>rfl
      | true =>
        have hs:done.set (rndP m plan w).1.cls.toNat true=done:=by
          have hlt:(rndP m plan w).1.cls.toNat<done.length:=by rw[h.len];omega
          rw[List.getD_eq_getElem?_getD,List.getElem?_eq_getElem hlt,Option.getD_some] at hd
          rw[← hd];exact List.set_getElem_self hlt
        obtain ⟨hl1,hl2⟩:=pop_least ordI (l:=w.map (setO m plan)) (by simp;omega)
        have hx:(rndP m plan w).1∈w.map (setO m plan):=hl2.mem_iff.1 List.mem_cons_self
        obtain ⟨x0,hx0,e⟩:=List.mem_map.1 hx
        have:=(h.mem (rndP m plan w).1.cls.toNat (by omega)).2 ⟨x0,hx0,by rw[← e];show x0.cls=_;have:=(h.near x0 hx0).1;show x0.cls=((x0.cls.toNat:Nat):Int);omega⟩
        rw[hd] at this;exact this
    exact satR_I hm r _ _ _ h3 (by omega) (hi.step hm h.len (by omega) hmem)
theorem sat_keeps {m:Mdl} (hm:VM m):costP m (satV m)<1099511627776∧∀ c,c<m.cls.length→(satV m).getD c 0 = -1→∀ k:Nat,k<(m.cls.getD c default).length→1099511627776≤costP m ((satV m).set c (k:Int)):=by
  obtain ⟨d,h1,h2⟩:=satR_I hm _ _ _ _ (wd0 (nbV_len m)) (by rw[w0_len,nbV_len]) (satI0 hm)
  exact⟨h2.low,fun c hc h=>h2.not c hc (h1 c hc) h⟩
theorem addC_ge {s d:Int} (hs:In41 s) (hd:In41 d):s≤addC s d∧d≤addC s d:=by unfold In41 at *;unfold addC;omega
theorem tCh_ge:∀ (l:List (Int × Int)) (s:Int),(∀ c∈l,In41 c.2)→In41 s→s≤tCh l s∧∀ c∈l,c.2≤tCh l s
  | [],s,_,_=>⟨Int.le_refl _,by simp⟩
  | c::r,s,hc,h=>by
    have h1:=hc c (by simp)
    have h2:=addC_ge h h1
    have ih:=tCh_ge r (addC s c.2) (fun x hx=>hc x (by simp[hx])) (addC_in h h1)
    refine⟨Int.le_trans h2.1 ih.1,fun x hx=>?_⟩
    rcases List.mem_cons.1 hx with rfl | hx
    · exact Int.le_trans h2.2 ih.1
    · exact ih.2 x hx
theorem brOwn_eq {m:Mdl} (hm:VM m):∀ (plan:List Int) (i:Nat) (s:Int) (out:List Int),In41 s→tPlan m i plan s<1099511627776→brOwn m i plan out=out∧s<1099511627776∧In41 (tPlan m i plan s)
  | [],i,s,out,hs,h=>⟨rfl,h,hs⟩
  | o::r,i,s,out,hs,h=>by
    rw[tPlan] at h ⊢
    rw[brOwn]
    by_cases ho:o<0
    · rw[if_pos ho] at h ⊢
      rw[if_neg (fun e=>by omega)]
      exact brOwn_eq hm r _ _ _ hs h
    · rw[if_neg ho] at h ⊢
      have hc:=chsW_in hm i o.toNat
      have hin:∀ c∈((m.cls.getD i default).getD o.toNat default).ch,In41 c.2:=fun c h=>price_in (hc c h).2
      have hin2:=tCh_in _ s hin hs
      have hge:=tCh_ge _ s hin hs
      obtain ⟨h1,h2,h3⟩:=brOwn_eq hm r (i+1) _ out hin2 h
      have hfree:freeB ((m.cls.getD i default).getD o.toNat default)=true:=by
        unfold freeB
        rw[Bool.not_eq_true',List.any_eq_false]
        intro c hcm e
        rw[decide_eq_true_eq] at e
        have:=hge.2 c hcm
        omega
      rw[if_neg (by rw[hfree];simp)]
      exact⟨h1,by omega,h3⟩
theorem brPrs_eq {m:Mdl} {plan:List Int}:∀ (l:List Pr) (s:Int) (out:List Int),(∀ p∈l,pairB m p=true)→In41 s→tPrs m plan l s<1099511627776→brPrs m plan l out=out∧s<1099511627776∧In41 (tPrs m plan l s)
  | [],s,out,_,hs,h=>⟨rfl,h,hs⟩
  | p::r,s,out,hp,hs,h=>by
    rw[tPrs] at h ⊢
    rw[brPrs]
    have hpb:=hp p (by simp)
    by_cases hc:0≤plan.getD p.fst.toNat 0∧0≤plan.getD p.snd.toNat 0
    · rw[if_pos hc] at h ⊢
      have he:=entry_in hpb (plan.getD p.fst.toNat 0) (plan.getD p.snd.toNat 0)
      have hge:=addC_ge hs he
      obtain ⟨h1,h2,h3⟩:=brPrs_eq r _ out (fun x hx=>hp x (by simp[hx])) (addC_in hs he) h
      rw[if_neg (fun e=>by omega)]
      exact⟨h1,by omega,h3⟩
    · rw[if_neg hc] at h ⊢
      rw[if_neg (fun e=>hc e.1)]
      exact brPrs_eq r _ out (fun x hx=>hp x (by simp[hx])) hs h
theorem brCts_zero {m:Mdl} {plan:List Int}:∀ (l:List Ct) (s:Int) (out:List Int),(∀ c∈l,ctB m c=true)→In41 s→tCts plan l s<1099511627776→brCts plan l out=out∧s<1099511627776
  | [],s,out,_,hs,h=>⟨rfl,h⟩
  | c::r,s,out,hc,hs,h=>by
    rw[tCts] at h
    rw[brCts]
    obtain ⟨q1,q2,q3,q4⟩:=ctB_iff (hc c (by simp))
    have he:In41 (timesV (excN plan c) c.pen):=by rw[exc_times q3];exact excV_in (price_in q3)
    have hge:=addC_ge hs he
    obtain ⟨h1,h2⟩:=brCts_zero r _ out (fun x hx=>hc x (by simp[hx])) (addC_in hs he) h
    rw[if_pos]
    · exact⟨h1,by omega⟩
    · by_cases hh:hardB c=true
      · right
        unfold hardB at hh
        rw[decide_eq_true_eq] at hh
        have:0≤excN plan c:=by unfold excN;omega
        by_cases h0:excN plan c=0
        · exact h0
        · have:timesV (excN plan c) c.pen=1099511627776:=by unfold timesV;rw[if_neg (by omega),if_pos (by omega)]
          omega
      · left;simpa using hh
theorem breaks_zero {m:Mdl} (hm:VM m) {plan:List Int} (h:costP m plan<1099511627776):breaksV m plan=List.replicate plan.length 0:=by
  unfold costP at h
  rw[← totW_eq hm] at h
  unfold totW at h
  have hp0:In41 (tPlan m 0 plan 0):=(tw_plan hm plan 0 (List.replicate m.rules.toNat 0) 0 (by
    refine⟨OutOK.rep hm.rul.1,by decide,?_⟩
    have:∀ k,sumL (List.replicate k 0)=0:=by
      intro k
      induction k with
      | zero=>rfl
      | succ k ih=>rw[List.replicate_succ,sumL,ih];rfl
    rw[this]) (by unfold In41;decide)).2
  have hpr:In41 (tPrs m plan m.prs (tPlan m 0 plan 0)):=by
    have:∀ (l:List Pr) (s:Int),(∀ p∈l,pairB m p=true)→In41 s→In41 (tPrs m plan l s):=by
      intro l
      induction l with
      | nil=>intro s _ hs;exact hs
      | cons p r ih =>
        intro s hp hs
        rw[tPrs]
        refine ih _ (fun x hx=>hp x (by simp[hx])) ?_
        split
        · exact addC_in hs (entry_in (hp p (by simp)) _ _)
        · exact hs
    exact this _ _ (prsL_mem hm.pr) hp0
  unfold breaksV
  obtain ⟨h1,h2⟩:=brCts_zero (m:=m) m.cts _ (brPrs m plan m.prs (brOwn m 0 plan (List.replicate plan.length 0))) hm.ct hpr h
  obtain ⟨h3,h4,_⟩:=brPrs_eq m.prs _ (brOwn m 0 plan (List.replicate plan.length 0)) (prsL_mem hm.pr) hp0 h2
  obtain ⟨h5,_,_⟩:=brOwn_eq hm plan 0 0 (List.replicate plan.length 0) (by unfold In41;decide) h4
  rw[h1,h3,h5]
structure BS where
  plan:List Int
  best:List Int
  aside:List Bool
  u:Int→Int→Int
end T

