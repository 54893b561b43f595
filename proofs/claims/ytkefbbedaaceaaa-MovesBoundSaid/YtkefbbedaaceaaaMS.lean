import Derived.Test.YtkefbbedaaceaaaMR
set_option linter.unusedVariables false
set_option linter.unusedSimpArgs false
open Go Go.Am
namespace T
theorem sumN_mem {f:Nat→Int}:∀ (n:Nat),(∀ i<n,0≤f i)→0≤sumN f n∧∀ i<n,f i≤sumN f n
  | 0,_=>⟨Int.le_refl _,fun i h=>by omega⟩
  | n+1,h=>by
    have h1:=sumN_mem n fun i hi=>h i (by omega)
    have h2:=h n (by omega)
    rw[sumN]
    refine⟨by omega,fun i hi=>?_⟩
    by_cases e:i=n
    · subst e;omega
    · have:=h1.2 i (by omega);omega
theorem sumN_le {f g:Nat→Int}:∀ (n:Nat),(∀ i<n,f i≤g i)→sumN f n≤sumN g n
  | 0,_=>Int.le_refl _
  | n+1,h=>by
    have:=sumN_le n fun i hi=>h i (by omega)
    have:=h n (by omega)
    rw[sumN,sumN];omega
theorem ownP_in {m:Mdl} {plan:List Int} (hm:VM m) (hp:FP m plan) {i:Nat} (hi:i<m.cls.length):In41 (ownP m plan i):=by
  have h:=fp_get hp hi
  have hl:=getD_mem (l:=m.cls) (i:=i) (d:=default) hi
  exact ownS_in (hm.chs _ hl _ (getD_mem (l:=m.cls.getD i default) (i:=(plan.getD i 0).toNat) (d:=default) (by omega)))
theorem sg0 {m:Mdl} {plan:List Int} (hp:FP m plan) {i:Nat} (hi:i<m.cls.length):sgP plan (S0 m,T0 m) i=ofN (ownP m plan i):=by
  have h:=fp_get hp hi
  unfold sgP S0
  dsimp only
  rw[map_getD _ _ _ hi]
  unfold firstV ownV
  rw[List.map_map,map_getD _ _ _ (by omega)]
  rfl
theorem ix_lt {m:Mdl} {plan:List Int} (hm:VM m) (hp:FP m plan) {p:Pr} (hpb:pairB m p=true):ixP m plan p<p.tab.length:=by
  obtain ⟨q1,q2,q3,q4,q5⟩:=pairB_iff hpb
  have ha:=fp_get hp (j:=p.fst.toNat) (by omega)
  have hb:=fp_get hp (j:=p.snd.toNat) (by omega)
  have hl1:=hm.opt _ (getD_mem (l:=m.cls) (i:=p.fst.toNat) (d:=default) (by omega))
  have hl2:=hm.opt _ (getD_mem (l:=m.cls) (i:=p.snd.toNat) (d:=default) (by omega))
  have hix:=entry_idx ha hb (by omega) (by omega)
  unfold ixP
  omega
theorem tg0 {m:Mdl} {plan:List Int} (hm:VM m) (hp:FP m plan) {i:Nat} (hi:i<m.prs.length):tgP m plan (S0 m,T0 m) i=ofN (entP m plan (m.prs.getD i default)):=by
  have hpb:=prsL_mem hm.pr _ (getD_mem (l:=m.prs) (i:=i) (d:=default) hi)
  have hix:=ix_lt hm hp hpb
  unfold tgP T0
  dsimp only
  rw[map_getD _ _ _ hi]
  unfold firstV
  rw[map_getD _ _ _ hix]
  unfold entP entryV ixP
  rfl
theorem prB_get {m:Mdl} {left:List (List Bool)} (hm:VM m) (hf:FitsP m left) {i:Nat} (hi:i<m.prs.length) {x y:Int}
    (hx:0≤x∧x<(m.cls.getD (m.prs.getD i default).fst.toNat default).length) (hy:0≤y∧y<(m.cls.getD (m.prs.getD i default).snd.toNat default).length) :
    (prB m left i).getD (x * (m.cls.getD (m.prs.getD i default).snd.toNat default).length+y).toNat false=((left.getD (m.prs.getD i default).fst.toNat default).getD x.toNat false && (left.getD (m.prs.getD i default).snd.toNat default).getD y.toNat false):=by
  have hpb:=prsL_mem hm.pr _ (getD_mem (l:=m.prs) (i:=i) (d:=default) hi)
  unfold prB
  generalize m.prs.getD i default=p at *
  obtain ⟨q1,q2,q3,q4,q5⟩:=pairB_iff hpb
  have hl1:=hm.opt _ (getD_mem (l:=m.cls) (i:=p.fst.toNat) (d:=default) (by omega))
  have hl2:=hm.opt _ (getD_mem (l:=m.cls) (i:=p.snd.toNat) (d:=default) (by omega))
  have hix:=entry_idx hx hy (by omega) (by omega)
  have f1:=hf.2 p.fst.toNat (by have:=hf.1;omega)
  have f2:=hf.2 p.snd.toNat (by have:=hf.1;omega)
  rw[← f1] at hx hix
  rw[← f2] at hy hix ⊢
  generalize left.getD p.fst.toNat default=a at *
  generalize left.getD p.snd.toNat default=b at *
  obtain ⟨x,rfl⟩:=Int.eq_ofNat_of_zero_le hx.1
  obtain ⟨y,rfl⟩:=Int.eq_ofNat_of_zero_le hy.1
  have e:((x:Int) * b.length+y).toNat=x * b.length+y:=by
    rw[show ((x:Int) * b.length+y)=((x * b.length+y:Nat):Int) by simp,Int.toNat_natCast]
  have e2:x * b.length+y<a.length * b.length:=by
    have:=hix.2.2
    rw[show ((x:Int) * b.length+y)=((x * b.length+y:Nat):Int) by simp,show (a.length:Int) * b.length=((a.length * b.length:Nat):Int) by simp] at this
    omega
  have hy2:y<b.length:=by omega
  rw[e,bothV_get _ _ _ e2,Int.toNat_natCast,Int.toNat_natCast,Nat.mul_comm x,Nat.mul_add_div (by omega),Nat.div_eq_of_lt hy2,Nat.mul_add_mod,Nat.mod_eq_of_lt hy2,Nat.add_zero]
theorem loads_sum {m:Mdl} {plan:List Int} (hp:FP m plan) {c:Ct} (hc:ctB m c=true):loadS plan c.loads 0=sumN (fun j=>wlV c.loads (j:Nat) (plan.getD j 0) 0) m.cls.length:=by
  obtain ⟨_,_,_,q4⟩:=ctB_iff hc
  rw[loadS_sumW hp.len 0 q4,sumW_sumN,Int.zero_add,hp.len]
  exact sumN_congr _ fun j _=>by rw[Nat.zero_add,wlV_wt _ _ q4]
def InP (m:Mdl) (left:List (List Bool)) (plan:List Int):Prop:=∀ i,i<m.cls.length→(left.getD i default).getD (plan.getD i 0).toNat false=true
def OneP (m:Mdl) (left:List (List Bool)) (plan:List Int):Prop:=∀ i,i<m.cls.length→∀ j,(left.getD i default).getD j false=decide (j=(plan.getD i 0).toNat)
theorem least_le {m:Mdl} {plan:List Int} {left:List (List Bool)} (hm:VM m) (hp:FP m plan) (hf:FitsP m left) (hin:InP m left plan) {c:Ct} (hc:ctB m c=true):leastV left c≤excP plan c:=by
  obtain ⟨_,_,q3,q4⟩:=ctB_iff hc
  have hw:∀ x∈c.loads,1≤x.wt∧x.wt≤1000:=fun x hx=>(ldL_mem q4 x hx).2
  refine excV_le (price_in q3).1 ?_
  rw[lowS_eq,loads_sum hp hc,Int.zero_add,hf.1]
  refine sumN_le _ fun j hj=>?_
  have hg:=fp_get hp hj
  have h1:=lowW_le hw (j:Nat) (left.getD j []) 0 (-1) (plan.getD j 0).toNat (hin j hj)
  have h2:=wlV_rg hw (j:Nat) (plan.getD j 0) 0 (by omega)
  rw[Nat.zero_add,Int.toNat_of_nonneg hg.1] at h1
  unfold lowC
  rw[Nat.zero_add]
  omega
theorem least_eq {m:Mdl} {plan:List Int} {left:List (List Bool)} (hm:VM m) (hp:FP m plan) (hf:FitsP m left) (hin:OneP m left plan) {c:Ct} (hc:ctB m c=true):leastV left c=excP plan c:=by
  obtain ⟨_,_,q3,q4⟩:=ctB_iff hc
  have hw:∀ x∈c.loads,1≤x.wt∧x.wt≤1000:=fun x hx=>(ldL_mem q4 x hx).2
  unfold leastV excP
  congr 1
  rw[lowS_eq,loads_sum hp hc,Int.zero_add,hf.1]
  refine sumN_congr _ fun j hj=>?_
  have hg:=fp_get hp hj
  have h1:=lowW_one c.loads (j:Nat) (left.getD j []) 0 (plan.getD j 0).toNat (hin j hj)
  have h2:=wlV_rg hw (j:Nat) (plan.getD j 0) 0 (by omega)
  rw[Nat.zero_add,Int.toNat_of_nonneg hg.1] at h1
  unfold lowC
  rw[Nat.zero_add,h1]
  omega
theorem excP_in {m:Mdl} {plan:List Int} {c:Ct} (hc:ctB m c=true):In41 (excP plan c):=excV_in (price_in (ctB_iff hc).2.2.1)
theorem exc_forb {most s:Int} (h:0<excV most 1099511627776 s):excV most 1099511627776 s=1099511627776:=by
  unfold excV at *
  split at h
  · omega
  · rename_i h2;rw[if_neg h2];omega
theorem entP_in {m:Mdl} {plan:List Int} {p:Pr} (h:pairB m p=true):In41 (entP m plan p):=entry_in h _ _
structure Parts (m:Mdl) (plan:List Int) (left:List (List Bool)) (g:Lg):Prop where
  tot:totalL (rulesV m plan) 0=min (sumN (ownP m plan) m.cls.length+sumN (fun i=>entP m plan (m.prs.getD i default)) m.prs.length+sumN (fun i=>excP plan (m.cts.getD i default)) m.cts.length) 1099511627776
  ps:psP m plan g=sumN (ownP m plan) m.cls.length+sumN (fun i=>entP m plan (m.prs.getD i default)) m.prs.length
  sf:∀ i,i<m.cls.length→(sgP plan g i).2=decide (1099511627776≤ownP m plan i)
  tf:∀ i,i<m.prs.length→(tgP m plan g i).2=decide (1099511627776≤entP m plan (m.prs.getD i default))
  sl:∀ i,i<m.cls.length→(plan.getD i 0).toNat<(g.1.getD i default).length
  tl:∀ i,i<m.prs.length→ixP m plan (m.prs.getD i default)<(g.2.getD i default).length
  a:0≤sumN (ownP m plan) m.cls.length∧∀ i<m.cls.length,ownP m plan i≤sumN (ownP m plan) m.cls.length
  b:0≤sumN (fun i=>entP m plan (m.prs.getD i default)) m.prs.length∧∀ i<m.prs.length,entP m plan (m.prs.getD i default)≤sumN (fun i=>entP m plan (m.prs.getD i default)) m.prs.length
  c:0≤sumN (fun i=>excP plan (m.cts.getD i default)) m.cts.length∧∀ i<m.cts.length,excP plan (m.cts.getD i default)≤sumN (fun i=>excP plan (m.cts.getD i default)) m.cts.length
theorem parts {m:Mdl} {plan:List Int} (hm:VM m) (hp:FP m plan) (left:List (List Bool)) (l:List Mv) (hl:∀ x∈l,mvB m x=true):Parts m plan left (mvsL m l (S0 m,T0 m)):=by
  have hps:=mvsL_ps hm hp l _ _ (by decide) (open_lg hm) hl
  have hlg:=mvsL_lg hm l hl
  refine⟨total_sum hm hp,?_,fun i hi=>?_,fun i hi=>?_,fun i hi=>?_,fun i hi=>?_,sumN_mem _ fun i hi=>(ownP_in hm hp hi).1,sumN_mem _ fun i hi=>(entP_in (prsL_mem hm.pr _ (getD_mem hi))).1,sumN_mem _ fun i hi=>(excP_in (hm.ct _ (getD_mem hi))).1⟩
  · rw[hps.1]
    unfold psP
    rw[sumN_congr m.cls.length fun i hi=>by rw[sg0 hp hi],sumN_congr m.prs.length fun i hi=>by rw[tg0 hm hp hi]]
    rfl
  · rw[hps.2.1,sg0 hp hi];rfl
  · rw[hps.2.2,tg0 hm hp hi];rfl
  · have:=fp_get hp hi
    rw[hlg.sl i hi];omega
  · rw[hlg.tl i hi];exact ix_lt hm hp (prsL_mem hm.pr _ (getD_mem hi))
theorem prB_in {m:Mdl} {plan:List Int} {left:List (List Bool)} (hm:VM m) (hp:FP m plan) (hf:FitsP m left) (hin:InP m left plan) {i:Nat} (hi:i<m.prs.length):(prB m left i).getD (ixP m plan (m.prs.getD i default)) false=true:=by
  have hpb:=prsL_mem hm.pr _ (getD_mem (l:=m.prs) (i:=i) (d:=default) hi)
  obtain ⟨q1,q2,q3,q4,q5⟩:=pairB_iff hpb
  unfold ixP
  rw[prB_get hm hf hi (fp_get hp (by omega)) (fp_get hp (by omega)),hin _ (by omega),hin _ (by omega)]
  rfl
theorem prB_one {m:Mdl} {plan:List Int} {left:List (List Bool)} (hm:VM m) (hp:FP m plan) (hf:FitsP m left) (hone:OneP m left plan) {i:Nat} (hi:i<m.prs.length) (j:Nat):(prB m left i).getD j false=decide (j=ixP m plan (m.prs.getD i default)):=by
  have hpb:=prsL_mem hm.pr _ (getD_mem (l:=m.prs) (i:=i) (d:=default) hi)
  obtain ⟨q1,q2,q3,q4,q5⟩:=pairB_iff hpb
  have g1:=fp_get hp (j:=(m.prs.getD i default).fst.toNat) (by omega)
  have g2:=fp_get hp (j:=(m.prs.getD i default).snd.toNat) (by omega)
  have o1:=hone (m.prs.getD i default).fst.toNat (by omega)
  have o2:=hone (m.prs.getD i default).snd.toNat (by omega)
  have f1:=hf.2 (m.prs.getD i default).fst.toNat (by have:=hf.1;omega)
  have f2:=hf.2 (m.prs.getD i default).snd.toNat (by have:=hf.1;omega)
  unfold prB ixP
  generalize m.prs.getD i default=p at *
  rw[← f1] at g1
  rw[← f2] at g2 ⊢
  generalize left.getD p.fst.toNat default=a at *
  generalize left.getD p.snd.toNat default=b at *
  generalize plan.getD p.fst.toNat 0=x at *
  generalize plan.getD p.snd.toNat 0=y at *
  obtain ⟨x,rfl⟩:=Int.eq_ofNat_of_zero_le g1.1
  obtain ⟨y,rfl⟩:=Int.eq_ofNat_of_zero_le g2.1
  simp only[Int.toNat_natCast] at o1 o2
  have hx:x<a.length:=by omega
  have hy:y<b.length:=by omega
  have e:((x:Int) * b.length+y).toNat=x * b.length+y:=by
    rw[show ((x:Int) * b.length+y)=((x * b.length+y:Nat):Int) by simp,Int.toNat_natCast]
  rw[e]
  by_cases hj:j<a.length * b.length
  · rw[bothV_get _ _ _ hj,o1,o2,← Bool.decide_and]
    have hdm:=Nat.div_add_mod j b.length
    have hml:=Nat.mod_lt j (show 0<b.length by omega)
    refine decide_eq_decide.2 ⟨fun ⟨h1,h2⟩=>?_,fun h=>?_⟩
    · rw[h1,h2,Nat.mul_comm] at hdm;exact hdm.symm
    · rw[h,Nat.mul_comm x,Nat.mul_add_div (by omega),Nat.div_eq_of_lt hy,Nat.mul_add_mod,Nat.mod_eq_of_lt hy]
      exact⟨rfl,rfl⟩
  · rw[List.getD_eq_getElem?_getD,List.getElem?_eq_none (by rw[bothV_len];omega),Option.getD_none,decide_eq_false]
    intro h
    have h3:(x+1) * b.length≤a.length * b.length:=Nat.mul_le_mul_right _ hx
    rw[Nat.add_mul,Nat.one_mul] at h3
    omega
theorem bound_law {m:Mdl} {plan:List Int} (hm:VM m) (hp:FP m plan) (left:List (List Bool)) (hf:FitsP m left) (hin:InP m left plan) (l:List Mv) (hl:∀ x∈l,mvB m x=true) :
    valV m left (mvsL m l (S0 m,T0 m))≤totalL (rulesV m plan) 0:=by
  have P:=parts hm hp left l hl
  generalize mvsL m l (S0 m,T0 m)=g at *
  rw[P.tot]
  have ha:=P.a
  have hb:=P.b
  have hc:=P.c
  have hps:=P.ps
  have htop:=val_top m left g
  by_cases hF:1099511627776≤sumN (ownP m plan) m.cls.length+sumN (fun i=>entP m plan (m.prs.getD i default)) m.prs.length+sumN (fun i=>excP plan (m.cts.getD i default)) m.cts.length
  · omega
  have e1:∀ i,i<m.cls.length→(pcV left g i).2=true∧(pcV left g i).1≤(sgP plan g i).1:=fun i hi=>by
    have:=ha.2 i hi
    exact lowN_le _ _ _ _ (P.sl i hi) (hin i hi) (by show (sgP plan g i).2=false;rw[P.sf i hi,decide_eq_false (by omega)])
  have e2:∀ i,i<m.prs.length→(ppV m left g i).2=true∧(ppV m left g i).1≤(tgP m plan g i).1:=fun i hi=>by
    have:=hb.2 i hi
    exact lowN_le _ _ _ _ (P.tl i hi) (prB_in hm hp hf hin hi) (by show (tgP m plan g i).2=false;rw[P.tf i hi,decide_eq_false (by omega)])
  have e3:∀ i,i<m.cts.length→(pkV m left i).2=true∧(pkV m left i).1≤excP plan (m.cts.getD i default):=fun i hi=>by
    have h1:=hc.2 i hi
    have hct:=hm.ct _ (getD_mem (l:=m.cts) (i:=i) (d:=default) hi)
    have h2:=least_le hm hp hf hin hct
    refine⟨?_,h2⟩
    unfold pkV
    dsimp only
    cases hz:(decide ((m.cts.getD i default).pen=1099511627776) && decide (0<leastV left (m.cts.getD i default))) with
    | false=>rfl
    | true =>
      exfalso
      rw[Bool.and_eq_true,decide_eq_true_eq,decide_eq_true_eq] at hz
      have h3:excP plan (m.cts.getD i default)=1099511627776:=by
        unfold excP at h2 ⊢
        rw[hz.1] at h2 ⊢
        exact exc_forb (by omega)
      omega
  rw[val_sum]
  · have s1:=sumN_le m.cls.length fun i hi=>(e1 i hi).2
    have s2:=sumN_le m.prs.length fun i hi=>(e2 i hi).2
    have s3:=sumN_le m.cts.length fun i hi=>(e3 i hi).2
    unfold vsV
    unfold psP at hps
    omega
  · rintro (⟨i,hi,h⟩ | ⟨i,hi,h⟩ | ⟨i,hi,h⟩)
    · rw[(e1 i hi).1] at h;cases h
    · rw[(e2 i hi).1] at h;cases h
    · rw[(e3 i hi).1] at h;cases h
theorem exact_law {m:Mdl} {plan:List Int} (hm:VM m) (hp:FP m plan) (left:List (List Bool)) (hf:FitsP m left) (hone:OneP m left plan) (l:List Mv) (hl:∀ x∈l,mvB m x=true) :
    valV m left (mvsL m l (S0 m,T0 m))=totalL (rulesV m plan) 0:=by
  have P:=parts hm hp left l hl
  generalize mvsL m l (S0 m,T0 m)=g at *
  rw[P.tot]
  have ha:=P.a
  have hb:=P.b
  have hc:=P.c
  have hps:=P.ps
  have e1:∀ i,i<m.cls.length→pcV left g i=if (sgP plan g i).2=false then ((sgP plan g i).1,true) else (0,false):=fun i hi =>
    lowN_one _ _ _ _ (P.sl i hi) (hone i hi) rfl
  have e2:∀ i,i<m.prs.length→ppV m left g i=if (tgP m plan g i).2=false then ((tgP m plan g i).1,true) else (0,false):=fun i hi =>
    lowN_one _ _ _ _ (P.tl i hi) (prB_one hm hp hf hone hi) rfl
  have e3:∀ i,i<m.cts.length→leastV left (m.cts.getD i default)=excP plan (m.cts.getD i default):=fun i hi =>
    least_eq hm hp hf hone (hm.ct _ (getD_mem hi))
  by_cases hN:nvV m left g
  · rw[val_never hN]
    rcases hN with ⟨i,hi,h⟩ | ⟨i,hi,h⟩ | ⟨i,hi,h⟩
    · rw[e1 i hi,P.sf i hi] at h
      have:=ha.2 i hi
      by_cases hx:1099511627776≤ownP m plan i
      · omega
      · rw[decide_eq_false hx,if_pos rfl] at h;cases h
    · rw[e2 i hi,P.tf i hi] at h
      have:=hb.2 i hi
      by_cases hx:1099511627776≤entP m plan (m.prs.getD i default)
      · omega
      · rw[decide_eq_false hx,if_pos rfl] at h;cases h
    · have h1:=hc.2 i hi
      unfold pkV at h
      dsimp only at h
      rw[e3 i hi,Bool.not_eq_false',Bool.and_eq_true,decide_eq_true_eq,decide_eq_true_eq] at h
      have h3:excP plan (m.cts.getD i default)=1099511627776:=by
        obtain ⟨h4,h5⟩:=h
        unfold excP at h5 ⊢
        rw[h4] at h5 ⊢
        exact exc_forb h5
      omega
  · rw[val_sum hN]
    congr 1
    rw[← hps]
    unfold vsV psP
    congr 1
    · congr 1
      · refine sumN_congr _ fun i hi=>?_
        rw[e1 i hi]
        split
        · rfl
        · rename_i h
          exact absurd (.inl ⟨i,hi,by rw[e1 i hi,if_neg h]⟩) hN
      · refine sumN_congr _ fun i hi=>?_
        rw[e2 i hi]
        split
        · rfl
        · rename_i h
          exact absurd (.inr (.inl ⟨i,hi,by rw[e2 i hi,if_neg h]⟩)) hN
    · exact sumN_congr _ fun i hi=>e3 i hi
end T

