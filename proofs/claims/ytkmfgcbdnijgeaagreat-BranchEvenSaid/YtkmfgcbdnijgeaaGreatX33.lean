import Derived.Test.YtkmfgcbdnijgeaaGreatX19
import Derived.Test.YtkmfgcbdnijgeaaGreatX21
set_option linter.unusedVariables false
set_option linter.unusedSimpArgs false
set_option linter.unnecessarySimpa false
set_option linter.unusedSectionVars false
set_option maxHeartbeats 64000000
set_option maxRecDepth 20000
open Go Go.Am
open Go Go.Am Go.Proofs
open Nat (reduceEqDiff reduceAdd reduceLeDiff reduceMul)
open Int (reduceNeg reduceLE reduceToNat)
namespace T
theorem sumN_mem {f:Nat→Int}:∀ (n:Nat),(∀ i<n,0≤f i)→0≤sumN f n∧∀ i<n,f i≤sumN f n
  | 0,_=>⟨Int.le_refl _,fun i h=>by omega⟩
  | n+1,h=>by
    have h1:=sumN_mem n fun i hi=>h i (by omega)
    have h2:=h n (by omega)
    rw[sumN]
    refine⟨by omega,fun i hi=>?_⟩
    by_cases e:i=n
    · subst e;omega
    · have:=h1.2 i (by omega);omega
theorem sumN_le {f g:Nat→Int}:∀ (n:Nat),(∀ i<n,f i≤g i)→sumN f n≤sumN g n
  | 0,_=>Int.le_refl _
  | n+1,h=>by
    have:=sumN_le n fun i hi=>h i (by omega)
    have:=h n (by omega)
    rw[sumN,sumN];omega
theorem ownP_in {m:Mdl} {plan:List Int} (hm:VM m) (hp:FP m plan) {i:Nat} (hi:i<m.cls.length):In41 (ownP m plan i):=by
  have h:=fp_get hp hi
  have hl:=getD_mem (l:=m.cls) (i:=i) (d:=default) hi
  exact ownS_in (hm.chs _ hl _ (getD_mem (l:=m.cls.getD i default) (i:=(plan.getD i 0).toNat) (d:=default) (by omega)))
theorem sg0 {m:Mdl} {plan:List Int} (hp:FP m plan) {i:Nat} (hi:i<m.cls.length):sgP plan (S0 m,T0 m) i=ofN (ownP m plan i):=by
  have h:=fp_get hp hi
  unfold sgP S0
  dsimp only
  rw[map_getD _ _ _ hi]
  unfold firstV ownV
  rw[List.map_map,map_getD _ _ _ (by omega)]
  rfl
theorem ix_lt {m:Mdl} {plan:List Int} (hm:VM m) (hp:FP m plan) {p:Pr} (hpb:pairB m p=true):ixP m plan p<p.tab.length:=by
  obtain ⟨q1,q2,q3,q4,q5⟩:=pairB_iff hpb
  have ha:=fp_get hp (j:=p.fst.toNat) (by omega)
  have hb:=fp_get hp (j:=p.snd.toNat) (by omega)
  have hl1:=hm.opt _ (getD_mem (l:=m.cls) (i:=p.fst.toNat) (d:=default) (by omega))
  have hl2:=hm.opt _ (getD_mem (l:=m.cls) (i:=p.snd.toNat) (d:=default) (by omega))
  have hix:=entry_idx ha hb (by omega) (by omega)
  unfold ixP
  omega
theorem tg0 {m:Mdl} {plan:List Int} (hm:VM m) (hp:FP m plan) {i:Nat} (hi:i<m.prs.length):tgP m plan (S0 m,T0 m) i=ofN (entP m plan (m.prs.getD i default)):=by
  have hpb:=prsL_mem hm.pr _ (getD_mem (l:=m.prs) (i:=i) (d:=default) hi)
  have hix:=ix_lt hm hp hpb
  unfold tgP T0
  dsimp only
  rw[map_getD _ _ _ hi]
  unfold firstV
  rw[map_getD _ _ _ hix]
  unfold entP entryV ixP
  rfl
theorem prB_get {m:Mdl} {left:List (List Bool)} (hm:VM m) (hf:FitsP m left) {i:Nat} (hi:i<m.prs.length) {x y:Int}
    (hx:0≤x∧x<(m.cls.getD (m.prs.getD i default).fst.toNat default).length) (hy:0≤y∧y<(m.cls.getD (m.prs.getD i default).snd.toNat default).length) :
    (prB m left i).getD (x * (m.cls.getD (m.prs.getD i default).snd.toNat default).length+y).toNat false=((left.getD (m.prs.getD i default).fst.toNat default).getD x.toNat false && (left.getD (m.prs.getD i default).snd.toNat default).getD y.toNat false):=by
  have hpb:=prsL_mem hm.pr _ (getD_mem (l:=m.prs) (i:=i) (d:=default) hi)
  unfold prB
  generalize m.prs.getD i default=p at *
  obtain ⟨q1,q2,q3,q4,q5⟩:=pairB_iff hpb
  have hl1:=hm.opt _ (getD_mem (l:=m.cls) (i:=p.fst.toNat) (d:=default) (by omega))
  have hl2:=hm.opt _ (getD_mem (l:=m.cls) (i:=p.snd.toNat) (d:=default) (by omega))
  have hix:=entry_idx hx hy (by omega) (by omega)
  have f1:=hf.2 p.fst.toNat (by have:=hf.1;omega)
  have f2:=hf.2 p.snd.toNat (by have:=hf.1;omega)
  rw[← f1] at hx hix
  rw[← f2] at hy hix ⊢
  generalize left.getD p.fst.toNat default=a at *
  generalize left.getD p.snd.toNat default=b at *
  obtain ⟨x,rfl⟩:=Int.eq_ofNat_of_zero_le hx.1
  obtain ⟨y,rfl⟩:=Int.eq_ofNat_of_zero_le hy.1
  have e:((x:Int) * b.length+y).toNat=x * b.length+y:=by
    rw[show ((x:Int) * b.length+y)=((x * b.length+y:Nat):Int) by simp,Int.toNat_natCast]
  have e2:x * b.length+y<a.length * b.length:=by
    have:=hix.2.2
    rw[show ((x:Int) * b.length+y)=((x * b.length+y:Nat):Int) by simp,show (a.length:Int) * b.length=((a.length * b.length:Nat):Int) by simp] at this
    omega
  have hy2:y<b.length:=by omega
  rw[e,bothV_get _ _ _ e2,Int.toNat_natCast,Int.toNat_natCast,Nat.mul_comm x,Nat.mul_add_div (by omega),Nat.div_eq_of_lt hy2,Nat.mul_add_mod,Nat.mod_eq_of_lt hy2,Nat.add_zero]
theorem loads_sum {m:Mdl} {plan:List Int} (hp:FP m plan) {c:Ct} (hc:ctB m c=true):loadS plan c.loads 0=sumN (fun j=>wlV c.loads (j:Nat) (plan.getD j 0) 0) m.cls.length:=by
  obtain ⟨_,_,_,q4⟩:=ctB_iff hc
  rw[loadS_sumW hp.len 0 q4,sumW_sumN,Int.zero_add,hp.len]
  exact sumN_congr _ fun j _=>by rw[Nat.zero_add,wlV_wt _ _ q4]
def InP (m:Mdl) (left:List (List Bool)) (plan:List Int):Prop:=∀ i,i<m.cls.length→(left.getD i default).getD (plan.getD i 0).toNat false=true
def OneP (m:Mdl) (left:List (List Bool)) (plan:List Int):Prop:=∀ i,i<m.cls.length→∀ j,(left.getD i default).getD j false=decide (j=(plan.getD i 0).toNat)
theorem OneP.inp {m:Mdl} {left:List (List Bool)} {plan:List Int} (h:OneP m left plan):InP m left plan:=fun i hi=>by rw[h i hi,decide_eq_true rfl]
theorem least_le {m:Mdl} {plan:List Int} {left:List (List Bool)} (hm:VM m) (hp:FP m plan) (hf:FitsP m left) (hin:InP m left plan) {c:Ct} (hc:ctB m c=true):leastV left c≤excP plan c:=by
  obtain ⟨_,_,q3,q4⟩:=ctB_iff hc
  have hw:∀ x∈c.loads,1≤x.wt∧x.wt≤1000:=fun x hx=>(ldL_mem q4 x hx).2
  refine excV_le (price_in q3).1 ?_
  rw[lowS_eq,loads_sum hp hc,Int.zero_add,hf.1]
  refine sumN_le _ fun j hj=>?_
  have hg:=fp_get hp hj
  have h1:=lowW_le hw (j:Nat) (left.getD j []) 0 (-1) (plan.getD j 0).toNat (hin j hj)
  have h2:=wlV_rg hw (j:Nat) (plan.getD j 0) 0 (by omega)
  rw[Nat.zero_add,Int.toNat_of_nonneg hg.1] at h1
  unfold lowC
  rw[Nat.zero_add]
  omega
theorem least_eq {m:Mdl} {plan:List Int} {left:List (List Bool)} (hm:VM m) (hp:FP m plan) (hf:FitsP m left) (hin:OneP m left plan) {c:Ct} (hc:ctB m c=true):leastV left c=excP plan c:=by
  obtain ⟨_,_,q3,q4⟩:=ctB_iff hc
  have hw:∀ x∈c.loads,1≤x.wt∧x.wt≤1000:=fun x hx=>(ldL_mem q4 x hx).2
  unfold leastV excP
  congr 1
  rw[lowS_eq,loads_sum hp hc,Int.zero_add,hf.1]
  refine sumN_congr _ fun j hj=>?_
  have hg:=fp_get hp hj
  have h1:=lowW_one c.loads (j:Nat) (left.getD j []) 0 (plan.getD j 0).toNat (hin j hj)
  have h2:=wlV_rg hw (j:Nat) (plan.getD j 0) 0 (by omega)
  rw[Nat.zero_add,Int.toNat_of_nonneg hg.1] at h1
  unfold lowC
  rw[Nat.zero_add,h1]
  omega
theorem excP_in {m:Mdl} {plan:List Int} {c:Ct} (hc:ctB m c=true):In41 (excP plan c):=excV_in (price_in (ctB_iff hc).2.2.1)
theorem exc_forb {most s:Int} (h:0<excV most 1099511627776 s):excV most 1099511627776 s=1099511627776:=by
  unfold excV at *
  split at h
  · omega
  · rename_i h2;rw[if_neg h2];omega
theorem entP_in {m:Mdl} {plan:List Int} {p:Pr} (h:pairB m p=true):In41 (entP m plan p):=entry_in h _ _
structure Parts (m:Mdl) (plan:List Int) (left:List (List Bool)) (g:Lg):Prop where
  tot:totalL (rulesV m plan) 0=min (sumN (ownP m plan) m.cls.length+sumN (fun i=>entP m plan (m.prs.getD i default)) m.prs.length+sumN (fun i=>excP plan (m.cts.getD i default)) m.cts.length) 1099511627776
  ps:psP m plan g=sumN (ownP m plan) m.cls.length+sumN (fun i=>entP m plan (m.prs.getD i default)) m.prs.length
  sf:∀ i,i<m.cls.length→(sgP plan g i).2=decide (1099511627776≤ownP m plan i)
  tf:∀ i,i<m.prs.length→(tgP m plan g i).2=decide (1099511627776≤entP m plan (m.prs.getD i default))
  sl:∀ i,i<m.cls.length→(plan.getD i 0).toNat<(g.1.getD i default).length
  tl:∀ i,i<m.prs.length→ixP m plan (m.prs.getD i default)<(g.2.getD i default).length
  a:0≤sumN (ownP m plan) m.cls.length∧∀ i<m.cls.length,ownP m plan i≤sumN (ownP m plan) m.cls.length
  b:0≤sumN (fun i=>entP m plan (m.prs.getD i default)) m.prs.length∧∀ i<m.prs.length,entP m plan (m.prs.getD i default)≤sumN (fun i=>entP m plan (m.prs.getD i default)) m.prs.length
  c:0≤sumN (fun i=>excP plan (m.cts.getD i default)) m.cts.length∧∀ i<m.cts.length,excP plan (m.cts.getD i default)≤sumN (fun i=>excP plan (m.cts.getD i default)) m.cts.length
theorem parts {m:Mdl} {plan:List Int} (hm:VM m) (hp:FP m plan) (left:List (List Bool)) (l:List Mv) (hl:∀ x∈l,mvB m x=true):Parts m plan left (mvsL m l (S0 m,T0 m)):=by
  have hps:=mvsL_ps hm hp l _ _ (by decide) (open_lg hm) hl
  have hlg:=mvsL_lg hm l hl
  refine⟨total_sum hm hp,?_,fun i hi=>?_,fun i hi=>?_,fun i hi=>?_,fun i hi=>?_,sumN_mem _ fun i hi=>(ownP_in hm hp hi).1,sumN_mem _ fun i hi=>(entP_in (prsL_mem hm.pr _ (getD_mem hi))).1,sumN_mem _ fun i hi=>(excP_in (hm.ct _ (getD_mem hi))).1⟩
  · rw[hps.1]
    unfold psP
    rw[sumN_congr m.cls.length fun i hi=>by rw[sg0 hp hi],sumN_congr m.prs.length fun i hi=>by rw[tg0 hm hp hi]]
    rfl
  · rw[hps.2.1,sg0 hp hi];rfl
  · rw[hps.2.2,tg0 hm hp hi];rfl
  · have:=fp_get hp hi
    rw[hlg.sl i hi];omega
  · rw[hlg.tl i hi];exact ix_lt hm hp (prsL_mem hm.pr _ (getD_mem hi))
theorem prB_in {m:Mdl} {plan:List Int} {left:List (List Bool)} (hm:VM m) (hp:FP m plan) (hf:FitsP m left) (hin:InP m left plan) {i:Nat} (hi:i<m.prs.length):(prB m left i).getD (ixP m plan (m.prs.getD i default)) false=true:=by
  have hpb:=prsL_mem hm.pr _ (getD_mem (l:=m.prs) (i:=i) (d:=default) hi)
  obtain ⟨q1,q2,q3,q4,q5⟩:=pairB_iff hpb
  unfold ixP
  rw[prB_get hm hf hi (fp_get hp (by omega)) (fp_get hp (by omega)),hin _ (by omega),hin _ (by omega)]
  rfl
theorem prB_one {m:Mdl} {plan:List Int} {left:List (List Bool)} (hm:VM m) (hp:FP m plan) (hf:FitsP m left) (hone:OneP m left plan) {i:Nat} (hi:i<m.prs.length) (j:Nat):(prB m left i).getD j false=decide (j=ixP m plan (m.prs.getD i default)):=by
  have hpb:=prsL_mem hm.pr _ (getD_mem (l:=m.prs) (i:=i) (d:=default) hi)
  obtain ⟨q1,q2,q3,q4,q5⟩:=pairB_iff hpb
  have g1:=fp_get hp (j:=(m.prs.getD i default).fst.toNat) (by omega)
  have g2:=fp_get hp (j:=(m.prs.getD i default).snd.toNat) (by omega)
  have o1:=hone (m.prs.getD i default).fst.toNat (by omega)
  have o2:=hone (m.prs.getD i default).snd.toNat (by omega)
  have f1:=hf.2 (m.prs.getD i default).fst.toNat (by have:=hf.1;omega)
  have f2:=hf.2 (m.prs.getD i default).snd.toNat (by have:=hf.1;omega)
  unfold prB ixP
  generalize m.prs.getD i default=p at *
  rw[← f1] at g1
  rw[← f2] at g2 ⊢
  generalize left.getD p.fst.toNat default=a at *
  generalize left.getD p.snd.toNat default=b at *
  generalize plan.getD p.fst.toNat 0=x at *
  generalize plan.getD p.snd.toNat 0=y at *
  obtain ⟨x,rfl⟩:=Int.eq_ofNat_of_zero_le g1.1
  obtain ⟨y,rfl⟩:=Int.eq_ofNat_of_zero_le g2.1
  simp only[Int.toNat_natCast] at o1 o2
  have hx:x<a.length:=by omega
  have hy:y<b.length:=by omega
  have e:((x:Int) * b.length+y).toNat=x * b.length+y:=by
    rw[show ((x:Int) * b.length+y)=((x * b.length+y:Nat):Int) by simp,Int.toNat_natCast]
  rw[e]
  by_cases hj:j<a.length * b.length
  · rw[bothV_get _ _ _ hj,o1,o2,← Bool.decide_and]
    have hdm:=Nat.div_add_mod j b.length
    have hml:=Nat.mod_lt j (show 0<b.length by omega)
    refine decide_eq_decide.2 ⟨fun ⟨h1,h2⟩=>?_,fun h=>?_⟩
    · rw[h1,h2,Nat.mul_comm] at hdm;exact hdm.symm
    · rw[h,Nat.mul_comm x,Nat.mul_add_div (by omega),Nat.div_eq_of_lt hy,Nat.mul_add_mod,Nat.mod_eq_of_lt hy]
      exact⟨rfl,rfl⟩
  · rw[List.getD_eq_getElem?_getD,List.getElem?_eq_none (by rw[bothV_len];omega),Option.getD_none,decide_eq_false]
    intro h
    have h3:(x+1) * b.length≤a.length * b.length:=Nat.mul_le_mul_right _ hx
    rw[Nat.add_mul,Nat.one_mul] at h3
    omega
theorem bound_law {m:Mdl} {plan:List Int} (hm:VM m) (hp:FP m plan) (left:List (List Bool)) (hf:FitsP m left) (hin:InP m left plan) (l:List Mv) (hl:∀ x∈l,mvB m x=true) :
    valV m left (mvsL m l (S0 m,T0 m))≤totalL (rulesV m plan) 0:=by
  have P:=parts hm hp left l hl
  generalize mvsL m l (S0 m,T0 m)=g at *
  rw[P.tot]
  have ha:=P.a
  have hb:=P.b
  have hc:=P.c
  have hps:=P.ps
  have htop:=val_top m left g
  by_cases hF:1099511627776≤sumN (ownP m plan) m.cls.length+sumN (fun i=>entP m plan (m.prs.getD i default)) m.prs.length+sumN (fun i=>excP plan (m.cts.getD i default)) m.cts.length
  · omega
  have e1:∀ i,i<m.cls.length→(pcV left g i).2=true∧(pcV left g i).1≤(sgP plan g i).1:=fun i hi=>by
    have:=ha.2 i hi
    exact lowN_le _ _ _ _ (P.sl i hi) (hin i hi) (by show (sgP plan g i).2=false;rw[P.sf i hi,decide_eq_false (by omega)])
  have e2:∀ i,i<m.prs.length→(ppV m left g i).2=true∧(ppV m left g i).1≤(tgP m plan g i).1:=fun i hi=>by
    have:=hb.2 i hi
    exact lowN_le _ _ _ _ (P.tl i hi) (prB_in hm hp hf hin hi) (by show (tgP m plan g i).2=false;rw[P.tf i hi,decide_eq_false (by omega)])
  have e3:∀ i,i<m.cts.length→(pkV m left i).2=true∧(pkV m left i).1≤excP plan (m.cts.getD i default):=fun i hi=>by
    have h1:=hc.2 i hi
    have hct:=hm.ct _ (getD_mem (l:=m.cts) (i:=i) (d:=default) hi)
    have h2:=least_le hm hp hf hin hct
    refine⟨?_,h2⟩
    unfold pkV
    dsimp only
    cases hz:(decide ((m.cts.getD i default).pen=1099511627776) && decide (0<leastV left (m.cts.getD i default))) with
    | false=>rfl
    | true =>
      exfalso
      rw[Bool.and_eq_true,decide_eq_true_eq,decide_eq_true_eq] at hz
      have h3:excP plan (m.cts.getD i default)=1099511627776:=by
        unfold excP at h2 ⊢
        rw[hz.1] at h2 ⊢
        exact exc_forb (by omega)
      omega
  rw[val_sum]
  · have s1:=sumN_le m.cls.length fun i hi=>(e1 i hi).2
    have s2:=sumN_le m.prs.length fun i hi=>(e2 i hi).2
    have s3:=sumN_le m.cts.length fun i hi=>(e3 i hi).2
    unfold vsV
    unfold psP at hps
    omega
  · rintro (⟨i,hi,h⟩ | ⟨i,hi,h⟩ | ⟨i,hi,h⟩)
    · rw[(e1 i hi).1] at h;cases h
    · rw[(e2 i hi).1] at h;cases h
    · rw[(e3 i hi).1] at h;cases h
theorem exact_law {m:Mdl} {plan:List Int} (hm:VM m) (hp:FP m plan) (left:List (List Bool)) (hf:FitsP m left) (hone:OneP m left plan) (l:List Mv) (hl:∀ x∈l,mvB m x=true) :
    valV m left (mvsL m l (S0 m,T0 m))=totalL (rulesV m plan) 0:=by
  have P:=parts hm hp left l hl
  generalize mvsL m l (S0 m,T0 m)=g at *
  rw[P.tot]
  have ha:=P.a
  have hb:=P.b
  have hc:=P.c
  have hps:=P.ps
  have e1:∀ i,i<m.cls.length→pcV left g i=if (sgP plan g i).2=false then ((sgP plan g i).1,true) else (0,false):=fun i hi =>
    lowN_one _ _ _ _ (P.sl i hi) (hone i hi) rfl
  have e2:∀ i,i<m.prs.length→ppV m left g i=if (tgP m plan g i).2=false then ((tgP m plan g i).1,true) else (0,false):=fun i hi =>
    lowN_one _ _ _ _ (P.tl i hi) (prB_one hm hp hf hone hi) rfl
  have e3:∀ i,i<m.cts.length→leastV left (m.cts.getD i default)=excP plan (m.cts.getD i default):=fun i hi =>
    least_eq hm hp hf hone (hm.ct _ (getD_mem hi))
  by_cases hN:nvV m left g
  · rw[val_never hN]
    rcases hN with ⟨i,hi,h⟩ | ⟨i,hi,h⟩ | ⟨i,hi,h⟩
    · rw[e1 i hi,P.sf i hi] at h
      have:=ha.2 i hi
      by_cases hx:1099511627776≤ownP m plan i
      · omega
      · rw[decide_eq_false hx,if_pos rfl] at h;cases h
    · rw[e2 i hi,P.tf i hi] at h
      have:=hb.2 i hi
      by_cases hx:1099511627776≤entP m plan (m.prs.getD i default)
      · omega
      · rw[decide_eq_false hx,if_pos rfl] at h;cases h
    · have h1:=hc.2 i hi
      unfold pkV at h
      dsimp only at h
      rw[e3 i hi,Bool.not_eq_false',Bool.and_eq_true,decide_eq_true_eq,decide_eq_true_eq] at h
      have h3:excP plan (m.cts.getD i default)=1099511627776:=by
        obtain ⟨h4,h5⟩:=h
        unfold excP at h5 ⊢
        rw[h4] at h5 ⊢
        exact exc_forb h5
      omega
  · rw[val_sum hN]
    congr 1
    rw[← hps]
    unfold vsV psP
    congr 1
    · congr 1
      · refine sumN_congr _ fun i hi=>?_
        rw[e1 i hi]
        split
        · rfl
        · rename_i h
          exact absurd (.inl ⟨i,hi,by rw[e1 i hi,if_neg h]⟩) hN
      · refine sumN_congr _ fun i hi=>?_
        rw[e2 i hi]
        split
        · rfl
        · rename_i h
          exact absurd (.inr (.inl ⟨i,hi,by rw[e2 i hi,if_neg h]⟩)) hN
    · exact sumN_congr _ fun i hi=>e3 i hi
def minF:List Int→List Bool→Int→Int
  | x::r,b::s,n=>minF r s (if b=true then min n x else n)
  | _,_,n=>n
def entK (tab:List Int) (w i:Nat) (a:Bool):Nat→List Bool→Int→Int
  | _,[],n=>n
  | k,b::r,n=>entK tab w i a (k+1) r (if a=true∧b=true then min n (tab.getD (i * w+k) 0) else n)
def entI (tab:List Int) (w:Nat) (rb:List Bool):Nat→List Bool→Int→Int
  | _,[],n=>n
  | i,a::r,n=>entI tab w rb (i+1) r (entK tab w i a 0 rb n)
def entM (m:Mdl) (left:List (List Bool)) (p:Pr):Int:=entI p.tab (m.cls.getD p.snd.toNat default).length (left.getD p.snd.toNat default) 0 (left.getD p.fst.toNat default) 1099511627776
def manyB:List Bool→Int→Int
  | [],n=>n
  | b::r,n=>manyB r (if b=true then n+1 else n)
def lgtL (c:Int) (row:List Bool):List Ld→Int × Int→Int × Int
  | [],z=>z
  | x::r,z=>lgtL c row r (if x.cls=c∧row.getD x.opt.toNat false=true then (z.1 - 1,if z.2<0∨x.wt<z.2 then x.wt else z.2) else z)
def lgt (l:List Ld) (c:Int) (row:List Bool):Int:=if 0<(lgtL c row l (manyB row 0,-1)).1∨(lgtL c row l (manyB row 0,-1)).2<0 then 0 else (lgtL c row l (manyB row 0,-1)).2
def grpL (l:List Ld) (left:List (List Bool)):Option Int→List Ld→Int→Int
  | _,[],n=>n
  | q,x::r,n=>grpL l left (some x.cls) r (if q=some x.cls then n else n+lgt l x.cls (left.getD x.cls.toNat default))
def timesP (n pen:Int):Int:=if 0<n∧pen=1099511627776 then 1099511627776 else min (n * pen) 1099511627776
def cntP (left:List (List Bool)) (c:Ct):Int:=timesP (max (grpL c.loads left none c.loads (-c.most)) 0) c.pen
def pcP (left:List (List Bool)):Nat→List (List Opt)→Int→Option Int
  | _,[],n=>some n
  | i,c::r,n=>if minF (ownV c) (left.getD i default) 1099511627776=1099511627776 then none else pcP left (i+1) r (n+minF (ownV c) (left.getD i default) 1099511627776)
def ppP (m:Mdl) (left:List (List Bool)):List Pr→Int→Option Int
  | [],n=>some n
  | p::r,n=>if entM m left p=1099511627776 then none else ppP m left r (n+entM m left p)
def pkP (left:List (List Bool)):List Ct→Int→Option Int
  | [],n=>some n
  | c::r,n=>if cntP left c=1099511627776 then none else pkP left r (n+cntP left c)
def endP:Option Int→Int
  | none=>1099511627776
  | some n=>min n 1099511627776
def pkE (m:Mdl) (left:List (List Bool)):Option Int→Option Int
  | none=>none
  | some n=>pkP left m.cts n
def ppE (m:Mdl) (left:List (List Bool)):Option Int→Option Int
  | none=>none
  | some n=>ppP m left m.prs n
def priceV (m:Mdl) (left:List (List Bool)):Int:=endP (pkE m left (ppE m left (pcP left 0 m.cls 0)))
def encF (q:Int × Bool):Int:=if q.2=true then q.1 else 1099511627776
theorem low_min:∀ (l:List Int) (s:List Bool) (b:Int × Bool),(∀ x∈l,In41 x)→(b.2=true→b.1<1099511627776) →
    encF (lowN (firstV l) s b)=minF l s (encF b)∧((lowN (firstV l) s b).2=true→(lowN (firstV l) s b).1<1099511627776)
  | [],s,b,_,hb=>⟨by cases s<;>rfl,hb⟩
  | x::r,[],b,_,hb=>⟨rfl,hb⟩
  | x::r,is::s,b,h,hb=>by
    have hx:=h x (by simp)
    unfold In41 at hx
    rw[show firstV (x::r)=ofN x::firstV r from rfl,lowN,minF]
    have key:encF (if is=true∧(ofN x).2=false∧(b.2=false∨(ofN x).1<b.1) then ((ofN x).1,true) else b)=(if is=true then min (encF b) x else encF b):=by
      obtain ⟨b1,b2⟩:=b
      unfold ofN encF
      dsimp only at hb ⊢
      cases is<;>cases b2<;>simp at hb ⊢<;>(repeat' split)<;>simp_all<;>omega
    have:=low_min r s (if is=true∧(ofN x).2=false∧(b.2=false∨(ofN x).1<b.1) then ((ofN x).1,true) else b) (fun y hy=>h y (by simp[hy])) (by
      split
      · rename_i hc
        intro _
        have:=hc.2.1
        unfold ofN at this ⊢
        simp at this;exact this
      · exact hb)
    rw[key] at this
    exact this
theorem minF_app:∀ (l:List Int) (s t:List Bool) (n:Int),s.length≤l.length→minF l (s++t) n=minF (l.drop s.length) t (minF l s n)
  | l,[],t,n,_=>by cases l<;>rfl
  | [],b::s,t,n,h=>by simp at h
  | x::r,b::s,t,n,h=>by
    rw[List.cons_append,minF,minF,List.length_cons,List.drop_succ_cons]
    exact minF_app r s t _ (by simpa using h)
theorem entK_min (tab:List Int) (w i:Nat) (a:Bool):∀ (r:List Bool) (k:Nat) (n:Int),i * w+k+r.length≤tab.length→entK tab w i a k r n=minF (tab.drop (i * w+k)) (r.map (a && ·)) n
  | [],k,n,_=>by cases (tab.drop (i * w+k))<;>rfl
  | b::r,k,n,h=>by
    have hlt:i * w+k<tab.length:=by simp at h;omega
    have hd:tab.drop (i * w+k)=tab.getD (i * w+k) 0::tab.drop (i * w+(k+1)):=by
      rw[List.drop_eq_getElem_cons hlt,List.getD_eq_getElem?_getD,List.getElem?_eq_getElem hlt];rfl
    rw[entK,hd,List.map_cons,minF,entK_min tab w i a r (k+1) _ (by simp at h;omega)]
    congr 1
    cases a<;>cases b<;>simp
theorem entI_min (tab:List Int) (w:Nat) (rb:List Bool) (hw:rb.length=w):∀ (r:List Bool) (i:Nat) (n:Int),i * w+r.length * w≤tab.length→entI tab w rb i r n=minF (tab.drop (i * w)) (bothV r rb) n
  | [],i,n,_=>by show n=minF _ [] n;cases (tab.drop (i * w))<;>rfl
  | a::r,i,n,h=>by
    have h2:i * w+(r.length+1) * w≤tab.length:=h
    rw[Nat.add_mul,Nat.one_mul] at h2
    rw[entI,entK_min tab w i a rb 0 n (by omega),entI_min tab w rb hw r (i+1) _ (by rw[Nat.add_mul];omega)]
    show _=minF _ (rb.map (a && ·)++bothV r rb) n
    rw[minF_app _ _ _ _ (by rw[List.length_map,List.length_drop];omega),List.drop_drop,List.length_map,hw,Nat.add_mul,Nat.one_mul]
    simp only[Nat.add_zero]
def seqP:List (Int × Bool)→Int→Option Int
  | [],n=>some n
  | p::r,n=>if p.2=false then none else seqP r (n+p.1)
theorem seqP_acc:∀ (l:List (Int × Bool)) (n:Int),seqP l n=if (accV l (n,false)).2=true then none else some (accV l (n,false)).1
  | [],n=>rfl
  | p::r,n=>by
    rw[seqP]
    obtain ⟨a,b⟩:=p
    cases b
    · show none=if (accV r (n+a,true)).2=true then none else _
      rw[accV_t,if_pos rfl]
    · exact seqP_acc r (n+a)
theorem pcP_seq {m:Mdl} (hm:VM m) (left:List (List Bool)):∀ (k i:Nat) (n:Int),i+k=m.cls.length→pcP left i (m.cls.drop i) n=seqP ((List.range' i k).map fun j=>lowN ((S0 m).getD j default) (left.getD j default) (0,false)) n
  | 0,i,n,h=>by rw[List.drop_eq_nil_of_le (by omega)];rfl
  | k+1,i,n,h=>by
    have hi:i<m.cls.length:=by omega
    have hs:(S0 m).getD i default=firstV (ownV (m.cls.getD i default)):=by rw[S0,map_getD _ _ _ hi]
    have h2:=low_min (ownV (m.cls.getD i default)) (left.getD i default) (0,false) (fun x hx=>by
      obtain ⟨o,ho,rfl⟩:=List.mem_map.1 hx
      exact ownS_in (hm.chs _ (getD_mem hi) o ho)) (by simp)
    rw[show encF (0,false)=1099511627776 from rfl] at h2
    rw[getD_drop0 m.cls i default hi,pcP,List.range'_succ,List.map_cons,seqP,pcP_seq hm left k (i+1) _ (by omega),hs,← h2.1]
    generalize lowN (firstV (ownV (m.cls.getD i default))) (left.getD i default) (0,false)=q at *
    obtain ⟨a,b⟩:=q
    unfold encF at *
    cases b<;>simp at h2 ⊢
    intro e;omega
theorem ppP_seq {m:Mdl} (hm:VM m) {left:List (List Bool)} (hf:FitsP m left):∀ (k i:Nat) (n:Int),i+k=m.prs.length→ppP m left (m.prs.drop i) n=seqP ((List.range' i k).map fun j=>lowN ((T0 m).getD j default) (prB m left j) (0,false)) n
  | 0,i,n,h=>by rw[List.drop_eq_nil_of_le (by omega)];rfl
  | k+1,i,n,h=>by
    have hi:i<m.prs.length:=by omega
    have hs:(T0 m).getD i default=firstV (m.prs.getD i default).tab:=by rw[T0,map_getD _ _ _ hi]
    have hpb:=prsL_mem hm.pr _ (getD_mem (d:=default) hi)
    obtain ⟨_,p1,p2,p3,p4⟩:=pairB_iff hpb
    have f1:=hf.2 (m.prs.getD i default).fst.toNat (by rw[hf.1];omega)
    have f2:=hf.2 (m.prs.getD i default).snd.toNat (by rw[hf.1];omega)
    have h2:=low_min (m.prs.getD i default).tab (prB m left i) (0,false) (tab_in hpb) (by simp)
    rw[show encF (0,false)=1099511627776 from rfl] at h2
    have h3:entM m left (m.prs.getD i default)=minF (m.prs.getD i default).tab (prB m left i) 1099511627776:=by
      unfold entM prB
      rw[entI_min _ _ _ f2 _ 0 _ (by rw[Nat.zero_mul,Nat.zero_add,f1];have:=p4;exact_mod_cast Int.le_of_eq this.symm),Nat.zero_mul,List.drop_zero]
    rw[getD_drop0 m.prs i default hi,ppP,List.range'_succ,List.map_cons,seqP,ppP_seq hm hf k (i+1) _ (by omega),hs,h3,← h2.1]
    generalize lowN (firstV (m.prs.getD i default).tab) (prB m left i) (0,false)=q at *
    obtain ⟨a,b⟩:=q
    unfold encF at *
    cases b<;>simp at h2 ⊢
    intro e;omega
theorem minF_rg:∀ (l:List Int) (s:List Bool) (n:Int),(∀ x∈l,0≤x)→0≤n→0≤minF l s n∧minF l s n≤n
  | [],s,n,_,hn=>by cases s<;>exact⟨hn,Int.le_refl _⟩
  | x::r,[],n,_,hn=>⟨hn,Int.le_refl _⟩
  | x::r,b::s,n,h,hn=>by
    have hx:=h x (by simp)
    obtain ⟨h1,h2⟩:=minF_rg r s (if b=true then min n x else n) (fun y hy=>h y (by simp[hy])) (by split<;>omega)
    rw[minF]
    refine⟨h1,Int.le_trans h2 ?_⟩
    split<;>omega
theorem entM_rg {m:Mdl} {p:Pr} {left:List (List Bool)} (hm:VM m) (hpb:pairB m p=true) (hf:FitsP m left):0≤entM m left p∧entM m left p≤1099511627776:=by
  obtain ⟨q1,q2,q3,q4,q5⟩:=pairB_iff hpb
  have h1:=hf.1
  have a1:=hf.2 p.fst.toNat (by omega)
  have a2:=hf.2 p.snd.toNat (by omega)
  unfold entM
  rw[entI_min _ _ _ a2 _ 0 _ (by rw[Nat.zero_mul,Nat.zero_add,a1];exact_mod_cast Int.le_of_eq q5.symm),Nat.zero_mul,List.drop_zero]
  exact minF_rg _ _ _ (fun x hx=>(tab_in hpb x hx).1) (by omega)
theorem prCut_ok (n:Int):Holds Tryz.prog 113 [.lit (.int .i64 n)] [] (.lit (.int .i64 (min n 1099511627776))) []:=by
  refine Holds.of_body' (fn:=Tryz.f113) 5 0 [.tmp 2] Tryz.func113 rfl rfl rfl rfl rfl (by simp) ?_
  refine Vb X0 ?_
  exact RetOK_pure' rfl rfl
theorem prTimes_ok (n pen:Int) (hn:0≤n∧n≤1048576) (hp:priceB pen=true):Holds Tryz.prog 143 [.lit (.int .i64 n),.lit (.int .i64 pen)] [] (.lit (.int .i64 (timesP n pen))) []:=by
  have hpi:=price_in hp
  unfold priceB at hp
  unfold In41 at hpi
  rw[decide_eq_true_eq] at hp
  generalize hres:timesP n pen=res
  unfold timesP at hres
  have hmul:¬(0<n∧pen=1099511627776)→0≤n * pen∧n * pen≤1099511627776:=fun h=>by
    rcases Int.lt_or_eq_of_le hn.1 with h0 | h0
    · have:n * pen≤1048576 * 1048576:=Int.mul_le_mul hn.2 (by omega) (by omega) (by omega)
      have:=Int.mul_nonneg hn.1 hpi.1
      omega
    · rw[← h0];simp
  generalize hnp:n * pen=np at *
  have hcut:=prCut_ok np
  refine Holds.of_body' (fn:=Tryz.f143) 15 0 [.tmp 4] Tryz.func143 rfl rfl rfl rfl rfl (by simp) ?_
  by_cases h:0<n∧pen=1099511627776
  · rw[if_pos h] at hres
    ((repeat' (first|refine Vb X0 ?_|(refine V2 X0 ?_ ?_<;>try with_reducible intro hb)|(refine Xi ?_ ?_<;>try intro ht)|exact Xx|fail)))
    all_goals exact RetOK_pure' rfl (by rw[hres])
  · rw[if_neg h] at hres
    have hmul:=hmul h
    ((repeat' (first|refine Vd @hnp hcut ?_|(refine V2 @hnp ?_ ?_<;>try with_reducible intro hb)|(refine Xi ?_ ?_<;>try intro ht)|exact Xx|fail)))
    all_goals exact RetOK_pure' rfl (by rw[hres])
theorem prOwn_ok (o:Opt) (hc:∀ c∈o.ch,In41 c.2) (hl:o.ch.length≤100):Holds Tryz.prog 110 [.agg (eOpt o)] [] (.lit (.int .i64 (ownS o))) []:=by
  refine Holds.of_body' (fn:=Tryz.f110) 20 0 [.tmp 2] Tryz.func110 rfl rfl rfl rfl rfl (by simp) ?_
  refine Vb @eOpt.eq_1 ?_
  refine W_loopS (fun k:Nat=>(⟨slots [(3,.lit (.int .i64 (((o.ch.take k).map (·.2)).foldl addC 0))),(7,.tree 2 (rowsOf eCh o.ch)),(8,.lit (.int .i64 o.ch.length)),(9,.lit (.int .i64 k))],[]⟩:St)) (fun k=>k≤o.ch.length) (fun k=>o.ch.length - k) 0 (Nat.zero_le _) (Xs false [] (X3 @List.take_zero.{0} @List.map_nil.{0,0} @List.foldl_nil.{0,0})) ?_
  rintro k hk Ql hnl hel
  have hs:=foldC_in ((o.ch.take k).map (·.2)) 0 (fun x hx=>by
    obtain ⟨c,hc',rfl⟩:=List.mem_map.1 hx;exact hc c (List.mem_of_mem_take hc')) (by unfold In41;decide)
  by_cases hk':k<o.ch.length
  · have hcc:=hc _ (getD_mem (d:=default) hk')
    have hst:=getD_foldl o.ch k hk'
    generalize ((o.ch.take k).map (·.2)).foldl addC 0=s at *
    generalize hxx:o.ch.getD k default=x at *
    have hadd:=prCut_ok (s+x.2)
    rw[show min (s+x.2) 1099511627776=addC s x.2 from rfl] at hadd
    unfold In41 at hs hcc
    ((repeat' (first|refine Vc (X2 @hxx @eCh.eq_1) hadd ?_|(refine Xi ?_ ?_<;>try intro ht)|exact Xx|fail)))
    exact hnl _ (k+1) (by omega) (by omega) (by simp only[hst];exact Xs false [] X0)
  · have hfin:((o.ch.take k).map (·.2)).foldl addC 0=ownS o:=by rw[List.take_of_length_le (by omega)];rfl
    rw[hfin] at hs ⊢
    ((repeat' (first|refine Va X0 ?_|(refine Xi ?_ ?_<;>try intro ht)|exact Xx|fail)))
    refine hel _ _ rfl ?_;clear hnl hel Ql
    repeat (refine Xu ?_)
    refine Vb X0 ?_
    exact RetOK_pure' rfl rfl
theorem prEntry_ok (m:Mdl) (p:Pr) (x y:Int) (hpb:pairB m p=true) (h24:∀ l∈m.cls,l.length≤24) (hx:0≤x∧x<(m.cls.getD p.fst.toNat default).length) (hy:0≤y∧y<(m.cls.getD p.snd.toNat default).length) :
    Holds Tryz.prog 141 [.agg (eMdl m),.agg (ePr p),.lit (.int .i64 x),.lit (.int .i64 y)] [] (.lit (.int .i64 (entryV m p x y))) []:=by
  obtain ⟨q1,q2,q3,q4,q5⟩:=pairB_iff hpb
  have hla:=h24 _ (getD_mem (l:=m.cls) (i:=p.fst.toNat) (d:=default) (by omega))
  have hlb:=h24 _ (getD_mem (l:=m.cls) (i:=p.snd.toNat) (d:=default) (by omega))
  have hidx:=entry_idx (x:=x) (y:=y) (a:=(m.cls.getD p.fst.toNat default).length) (b:=(m.cls.getD p.snd.toNat default).length) hx hy (by omega) (by omega)
  unfold entryV
  rw[← q5] at hidx
  generalize hbb:m.cls.getD p.snd.toNat default=lb at *
  generalize hxm:x * (lb.length:Int)=xm at *
  refine Holds.of_body' (fn:=Tryz.f141) 24 0 [.tmp 8] Tryz.func141 rfl rfl rfl rfl rfl (by simp) ?_
  refine Vb (X2 @hbb @hxm) ?_
  exact RetOK_pure' rfl rfl
theorem prMin_ok (m:Mdl) (p:Pr) (left:List (List Bool)) (hm:VM m) (hpb:pairB m p=true) (hf:FitsP m left) :
    Holds Tryz.prog 111 [.agg (eMdl m),.agg (ePr p),.tree 1 (rowsOf eBs left)] [] (.lit (.int .i64 (entM m left p))) []:=by
  obtain ⟨q1,q2,q3,q4,q5⟩:=pairB_iff hpb
  have hfl:=hf.1
  have hcl:=hm.cls
  have ha:=hf.2 p.fst.toNat (by omega)
  have hb:=hf.2 p.snd.toNat (by omega)
  have hla:=hm.opt _ (getD_mem (l:=m.cls) (i:=p.fst.toNat) (d:=default) (by omega))
  have hlb:=hm.opt _ (getD_mem (l:=m.cls) (i:=p.snd.toNat) (d:=default) (by omega))
  have hent:=fun x y=>prEntry_ok m p x y hpb hm.opt
  generalize hres:entM m left p=res
  unfold entM at hres
  unfold entryV at hent
  generalize hra:left.getD p.fst.toNat default=ra at *
  generalize hrb:left.getD p.snd.toNat default=rb at *
  generalize m.cls.getD p.fst.toNat default=la at *
  generalize m.cls.getD p.snd.toNat default=lb at *
  refine Holds.of_body' (fn:=Tryz.f111) 48 0 [.tmp 6] Tryz.func111 rfl rfl rfl rfl rfl (by simp) ?_
  refine Vb (X3 @hra @eBs.eq_1 @ePr.eq_1) ?_
  refine W_loopS (fun z:Nat × Int=>(⟨slots [(2,.tree 1 (rowsOf eBs left)),(3,.ptr 0 0 0),(4,.ptr 1 0 0),(7,.lit (.int .i64 z.2)),(16,.tree 1 (bools ra)),(17,.lit (.int .i64 ra.length)),(18,.lit (.int .i64 z.1))],[.var (eMdl m),.var (ePr p)]⟩:St))
    (fun z=>z.1≤ra.length∧entI p.tab lb.length rb z.1 (ra.drop z.1) z.2=res) (fun z=>ra.length - z.1) (0,1099511627776) ⟨Nat.zero_le _,hres⟩ (Xv @ePr.eq_1) ?_
  rintro ⟨i,n⟩ ⟨hi,hr⟩ Ql hnl hel
  dsimp only at hi hr ⊢
  by_cases hi':i<ra.length
  · have hd:=getD_drop0 ra i false hi'
    generalize haa:ra.getD i false=a at *
    rw[hd,entI] at hr
    ((repeat' (first|refine Va (X4 @haa @hrb @eBs.eq_1 @ePr.eq_1) ?_|(refine Xi ?_ ?_<;>try intro ht)|exact Xx|fail)))
    refine W_loopS (fun z:Nat × Int=>(⟨slots [(2,.tree 1 (rowsOf eBs left)),(3,.ptr 0 0 0),(4,.ptr 1 0 0),(7,.lit (.int .i64 z.2)),(8,.lit (.int .i64 i)),(9,.lit (.bool a)),(16,.tree 1 (bools ra)),(17,.lit (.int .i64 ra.length)),(18,.lit (.int .i64 i)),(27,.tree 1 (bools rb)),(28,.lit (.int .i64 rb.length)),(29,.lit (.int .i64 z.1))],[.var (eMdl m),.var (ePr p)]⟩:St))
      (fun z=>z.1≤rb.length∧entI p.tab lb.length rb (i+1) (ra.drop (i+1)) (entK p.tab lb.length i a z.1 (rb.drop z.1) z.2)=res) (fun z=>rb.length - z.1) (0,n) ⟨Nat.zero_le _,hr⟩ (Xv @ePr.eq_1) ?_
    rintro ⟨k,x⟩ ⟨hk,hr2⟩ Ql2 hnl2 hel2
    dsimp only at hk hr2 ⊢
    by_cases hk':k<rb.length
    · have hd2:=getD_drop0 rb k false hk'
      generalize hbb:rb.getD k false=b at *
      rw[hd2,entK] at hr2
      have he:=hent i k (by omega) (by omega)
      rw[show ((i:Int) * (lb.length:Int)+(k:Int)).toNat=i * lb.length+k by rw[← Int.natCast_mul,← Int.natCast_add,Int.toNat_natCast]] at he
      generalize p.tab.getD (i * lb.length+k) 0=e at *
      cases a<;>cases b
      · rw[if_neg (by simp)] at hr2
        ((repeat' (first|refine Va @hbb ?_|(refine Xi ?_ ?_<;>try intro ht)|exact Xx|fail)))
        all_goals exact hnl2 _ (k+1,x) ⟨by dsimp only;omega,hr2⟩ (by dsimp only;omega) (Xv X0)
      · rw[if_neg (by simp)] at hr2
        ((repeat' (first|refine Va @hbb ?_|(refine Xi ?_ ?_<;>try intro ht)|exact Xx|fail)))
        all_goals exact hnl2 _ (k+1,x) ⟨by dsimp only;omega,hr2⟩ (by dsimp only;omega) (Xv X0)
      · rw[if_neg (by simp)] at hr2
        ((repeat' (first|refine Va @hbb ?_|(refine Xi ?_ ?_<;>try intro ht)|exact Xx|fail)))
        all_goals exact hnl2 _ (k+1,x) ⟨by dsimp only;omega,hr2⟩ (by dsimp only;omega) (Xv X0)
      · rw[if_pos ⟨rfl,rfl⟩] at hr2
        ((repeat' (first|refine Vc @hbb he ?_|(refine Xi ?_ ?_<;>try intro ht)|exact Xx|fail)))
        all_goals exact hnl2 _ (k+1,min x e) ⟨by dsimp only;omega,hr2⟩ (by dsimp only;omega) (Xv X0)
    · ((repeat' (first|refine Va X0 ?_|(refine V2 X0 ?_ ?_<;>try with_reducible intro hb)|(refine Xi ?_ ?_<;>try intro ht)|exact Xx|fail)))
      rw[show rb.drop k=[] from List.drop_eq_nil_of_le (by omega),entK] at hr2
      refine hel2 _ _ rfl ?_
      clear hnl2 hel2
      repeat (refine Xu ?_)
      refine Va X0 ?_
      exact hnl _ (i+1,x) ⟨by dsimp only;omega,hr2⟩ (by dsimp only;omega) (Xv X0)
  · ((repeat' (first|refine Va X0 ?_|(refine Xi ?_ ?_<;>try intro ht)|exact Xx|fail)))
    rw[List.drop_eq_nil_of_le (by omega),entI] at hr
    refine hel _ _ rfl ?_;clear hnl hel Ql
    repeat (refine Xu ?_)
    refine Vb X0 ?_
    exact RetOK_pure' rfl (by rw[hr])
theorem lowW_att (l:List Ld) (c:Int):∀ (row:List Bool) (o:Nat) (b:Int),lowW l c o row b=b∨∃ i,row.getD i false=true∧lowW l c o row b=wlV l c (o+i:Nat) 0
  | [],_,_=>.inl rfl
  | is::r,o,b=>by
    rw[lowW]
    split
    · rename_i hc
      rcases lowW_att l c r (o+1) (wlV l c o 0) with h | ⟨i,h1,h2⟩
      · exact .inr ⟨0,by simpa using hc.1,by rw[h];rfl⟩
      · exact .inr ⟨i+1,by simpa using h1,by rw[h2,show o+1+i=o+(i+1) by omega]⟩
    · rcases lowW_att l c r (o+1) b with h | ⟨i,h1,h2⟩
      · exact .inl h
      · exact .inr ⟨i+1,by simpa using h1,by rw[h2,show o+1+i=o+(i+1) by omega]⟩
theorem lowW_ge {l:List Ld} (h:∀ x∈l,1≤x.wt∧x.wt≤1000) (c:Int):∀ (row:List Bool) (o:Nat) (b:Int) (i:Nat),row.getD i false=true→0≤lowW l c o row b
  | [],_,b,i,hi=>by simp at hi
  | is::r,o,b,0,hi=>by
    rw[List.getD_cons_zero] at hi
    have hw:=wlV_rg h c o 0 (by omega)
    rw[lowW]
    split
    · exact (lowW_pos h c r (o+1) _ hw.1).1
    · rename_i hc
      have hb:0≤b:=by
        rcases Int.lt_or_le b 0 with h2 | h2
        · exact absurd ⟨hi,.inl h2⟩ hc
        · exact h2
      exact (lowW_pos h c r (o+1) b hb).1
  | is::r,o,b,i+1,hi=>by
    rw[List.getD_cons_succ] at hi
    rw[lowW]
    exact lowW_ge h c r (o+1) _ i hi
theorem sumN_pos {f:Nat→Int}:∀ {n:Nat},(∀ i<n,0≤f i)→(0≤sumN f n∧(0<sumN f n↔∃ i,i<n∧0<f i))
  | 0,_=>by simp[sumN]
  | n+1,h=>by
    obtain ⟨h1,h2⟩:=sumN_pos (n:=n) fun i hi=>h i (by omega)
    have h3:=h n (by omega)
    rw[sumN]
    refine⟨by omega,fun h4=>?_,?_⟩
    · by_cases h5:0<sumN f n
      · obtain ⟨i,hi,hf⟩:=h2.1 h5;exact⟨i,by omega,hf⟩
      · exact⟨n,by omega,by omega⟩
    · rintro ⟨i,hi,hf⟩
      by_cases e:i=n
      · subst e;omega
      · have:=h2.2 ⟨i,by omega,hf⟩;omega
theorem sumN_sub (f g:Nat→Int):∀ n,sumN f n - sumN g n=sumN (fun i=>f i - g i) n
  | 0=>rfl
  | n+1=>by rw[sumN,sumN,sumN,← sumN_sub f g n];omega
theorem manyB_sum:∀ (row:List Bool) (n:Int),manyB row n=n+sumN (fun o=>if row.getD o false=true then 1 else 0) row.length
  | [],n=>by simp[manyB,sumN]
  | b::r,n=>by
    rw[manyB,manyB_sum r,List.length_cons,sumN_head]
    simp only[List.getD_cons_zero,List.getD_cons_succ]
    split<;>omega
theorem ldL_tail {m:Mdl} {q:Option Ld} {x:Ld} {r:List Ld} (h:ldL m q (x::r)=true):ldL m (some x) r=true:=by
  cases q<;>rw[ldL] at h<;>simp only[Bool.and_eq_true] at h<;>exact h.2
open Classical in
theorem lgt_many {m:Mdl} (c:Int) (row:List Bool):∀ {l:List Ld} {q:Option Ld},ldL m q l=true→∀ z:Int × Int,
    (lgtL c row l z).1=z.1 - sumN (fun o=>if row.getD o false=true∧∃ x∈l,x.cls=c∧x.opt=(o:Int) then 1 else 0) row.length
  | [],_,_,z=>by
    rw[sumN_congr (g:=fun _=>0) _ fun i _=>by simp]
    have:∀ n,sumN (fun _=>0) n=0:=fun n=>by induction n with | zero=>rfl | succ n ih=>rw[sumN,ih];rfl
    rw[this,lgtL];omega
  | x::r,q,h,z=>by
    have hr:=ldL_tail h
    have hx:=(optB_iff.1 (ldL_mem h x (by simp)).1).2.2.1
    rw[lgtL,lgt_many c row hr]
    by_cases hc:x.cls=c∧row.getD x.opt.toNat false=true
    · rw[if_pos hc]
      have hk:x.opt.toNat<row.length:=by
        rcases Nat.lt_or_ge x.opt.toNat row.length with h' | h'
        · exact h'
        · rw[List.getD_eq_getElem?_getD,List.getElem?_eq_none h'] at hc;simp at hc
      rw[sumN_congr (f:=fun o=>if row.getD o false=true∧∃ y∈x::r,y.cls=c∧y.opt=(o:Int) then 1 else 0) (g:=fun o=>if o=x.opt.toNat then (if row.getD o false=true∧∃ y∈r,y.cls=c∧y.opt=(o:Int) then 1 else 0)+1 else (if row.getD o false=true∧∃ y∈r,y.cls=c∧y.opt=(o:Int) then 1 else 0)) _ fun o _=>by
        by_cases e:o=x.opt.toNat
        · subst e
          rw[if_pos ⟨hc.2,x,by simp,hc.1,by omega⟩,if_pos rfl,if_neg (by rintro ⟨_,y,hy,h1,h2⟩;have:=ldL_gt hr y hy;omega)];rfl
        · rw[if_neg e]
          congr 1
          rw[eq_iff_iff]
          refine and_congr_right fun _=>⟨?_,fun ⟨y,hy,h1⟩=>⟨y,by simp[hy],h1⟩⟩
          rintro ⟨y,hy,h1,h2⟩
          rcases List.mem_cons.1 hy with rfl | hy
          · omega
          · exact⟨y,hy,h1,h2⟩,sumN_one,if_pos hk]
      dsimp only;omega
    · rw[if_neg hc]
      rw[sumN_congr (f:=fun o=>if row.getD o false=true∧∃ y∈x::r,y.cls=c∧y.opt=(o:Int) then 1 else 0) (g:=fun o=>if row.getD o false=true∧∃ y∈r,y.cls=c∧y.opt=(o:Int) then 1 else 0) _ fun o _=>by
        congr 1
        rw[eq_iff_iff]
        refine and_congr_right fun hro=>⟨?_,fun ⟨y,hy,h1⟩=>⟨y,by simp[hy],h1⟩⟩
        rintro ⟨y,hy,h1,h2⟩
        rcases List.mem_cons.1 hy with rfl | hy
        · exact absurd ⟨h1,by rw[h2,Int.toNat_natCast];exact hro⟩ hc
        · exact⟨y,hy,h1,h2⟩]
theorem lgt_least (c:Int) (row:List Bool):∀ {l:List Ld},(∀ x∈l,1≤x.wt)→∀ z:Int × Int,
    (∀ x∈l,x.cls=c∧row.getD x.opt.toNat false=true→0≤(lgtL c row l z).2∧(lgtL c row l z).2≤x.wt)∧(0≤z.2→0≤(lgtL c row l z).2∧(lgtL c row l z).2≤z.2) ∧
      ((lgtL c row l z).2=z.2∨∃ x∈l,(x.cls=c∧row.getD x.opt.toNat false=true)∧(lgtL c row l z).2=x.wt)
  | [],_,z=>⟨by simp,fun h=>⟨h,Int.le_refl _⟩,.inl rfl⟩
  | x::r,h,z=>by
    obtain ⟨h1,h2,h3⟩:=lgt_least c row (l:=r) (fun y hy=>h y (by simp[hy])) (if x.cls=c∧row.getD x.opt.toNat false=true then (z.1 - 1,if z.2<0∨x.wt<z.2 then x.wt else z.2) else z)
    have hx:=h x (by simp)
    rw[lgtL]
    generalize lgtL c row r _=w at *
    by_cases hc:x.cls=c∧row.getD x.opt.toNat false=true
    · rw[if_pos hc] at h2 h3
      dsimp only at h2 h3
      refine⟨fun y hy hcy=>?_,fun hz=>?_,?_⟩
      · rcases List.mem_cons.1 hy with rfl | hy
        · split at h2<;>omega
        · exact h1 y hy hcy
      · split at h2<;>omega
      · rcases h3 with h3 | ⟨y,hy,h3⟩
        · split at h3
          · exact .inr ⟨x,by simp,hc,h3⟩
          · exact .inl h3
        · exact .inr ⟨y,by simp[hy],h3⟩
    · rw[if_neg hc] at h2 h3
      refine⟨fun y hy hcy=>?_,h2,?_⟩
      · rcases List.mem_cons.1 hy with rfl | hy
        · exact absurd hcy hc
        · exact h1 y hy hcy
      · rcases h3 with h3 | ⟨y,hy,h3⟩
        · exact .inl h3
        · exact .inr ⟨y,by simp[hy],h3⟩
theorem wlV_mem {m:Mdl}:∀ {l:List Ld} {q:Option Ld},ldL m q l=true→∀ x∈l,∀ w,wlV l x.cls x.opt w=x.wt
  | [],_,_,x,hx,w=>by simp at hx
  | y::r,q,h,x,hx,w=>by
    have hr:=ldL_tail h
    rw[wlV]
    rcases List.mem_cons.1 hx with rfl | hx
    · rw[if_pos ⟨rfl,rfl⟩]
      exact wlV_skip r _ _ _ fun z hz he=>by have:=ldL_gt hr z hz;omega
    · exact wlV_mem hr x hx _
open Classical in
theorem lgt_low {m:Mdl} {l:List Ld} {q:Option Ld} (hl:ldL m q l=true) (c:Int) (row:List Bool):lgt l c row=lowC l c row:=by
  have hw:∀ x∈l,1≤x.wt∧x.wt≤1000:=fun x hx=>(ldL_mem hl x hx).2
  have h1:=lgt_many c row hl (manyB row 0,-1)
  obtain ⟨h2,_,h3⟩:=lgt_least c row (fun x hx=>(hw x hx).1) (manyB row 0,-1)
  unfold lgt
  generalize lgtL c row l (manyB row 0,-1)=z at *
  rw[manyB_sum,Int.zero_add,sumN_sub] at h1
  obtain ⟨h4,h5⟩:=sumN_pos (f:=fun i=>(if row.getD i false=true then (1:Int) else 0) - if row.getD i false=true∧∃ x∈l,x.cls=c∧x.opt=(i:Int) then 1 else 0) (n:=row.length) fun i _=>by
    (repeat' split)<;>simp_all
  rw[← h1] at h4 h5
  have hlen:∀ i,row.getD i false=true→i<row.length:=fun i h'=>by
    rcases Nat.lt_or_ge i row.length with h6 | h6
    · exact h6
    · rw[List.getD_eq_getElem?_getD,List.getElem?_eq_none h6] at h';simp at h'
  have hopt:∀ x∈l,0≤x.opt:=fun x hx=>(optB_iff.1 (ldL_mem hl x hx).1).2.2.1
  by_cases hex :∃o,row.getD o false=true∧¬∃x∈l,x.cls=c∧x.opt=(o:Int)
  · obtain ⟨o,ho,hno⟩:=hex
    rw[if_pos (.inl (h5.2 ⟨o,hlen o ho,by rw[if_pos ho,if_neg (by rintro ⟨_,h'⟩;exact hno h')];decide⟩))]
    have h6:=lowW_le hw c row 0 (-1) o ho
    rw[Nat.zero_add,wlV_skip l c o 0 fun y hy he=>hno ⟨y,hy,he⟩] at h6
    unfold lowC;omega
  have hall:∀ o,row.getD o false=true→∃ x∈l,x.cls=c∧x.opt=(o:Int):=fun o ho=>Classical.byContradiction fun h'=>hex ⟨o,ho,h'⟩
  have hz:¬ 0<z.1:=fun h'=>by
    obtain ⟨i,hi,h6⟩:=h5.1 h'
    by_cases hr:row.getD i false=true
    · rw[if_pos hr,if_pos ⟨hr,hall i hr⟩] at h6;omega
    · rw[if_neg hr,if_neg (fun h7=>hr h7.1)] at h6;omega
  by_cases hany :∃o,row.getD o false=true
  · obtain ⟨o,ho⟩:=hany
    obtain ⟨x,hx,hxc,hxo⟩:=hall o ho
    obtain ⟨g1,g2⟩:=h2 x hx ⟨hxc,by rw[hxo,Int.toNat_natCast];exact ho⟩
    rw[if_neg (by omega)]
    have g3:=lowW_ge hw c row 0 (-1) o ho
    unfold lowC
    rw[Int.max_eq_left g3]
    refine Int.le_antisymm ?_ ?_
    · rcases lowW_att l c row 0 (-1) with e | ⟨i,hi,e⟩
      · omega
      · obtain ⟨y,hy,hyc,hyo⟩:=hall i hi
        rw[e,Nat.zero_add,← hyo,← hyc,wlV_mem hl y hy]
        exact (h2 y hy ⟨hyc,by rw[hyo,Int.toNat_natCast];exact hi⟩).2
    · rcases h3 with e | ⟨y,hy,⟨hyc,hyr⟩,e⟩
      · dsimp only at e;omega
      · have h6:=lowW_le hw c row 0 (-1) _ hyr
        rw[Nat.zero_add,Int.toNat_of_nonneg (hopt y hy),← hyc,wlV_mem hl y hy] at h6
        rw[← hyc];omega
  · have e:z.2 = -1:=by
      rcases h3 with e | ⟨y,hy,⟨hyc,hyr⟩,e⟩
      · exact e
      · exact absurd ⟨_,hyr⟩ hany
    rw[if_pos (.inr (by omega)),lowC,lowW_off l c row 0 (-1) fun i=>by
      cases h':row.getD i false with
      | false=>rfl
      | true=>exact absurd ⟨i,h'⟩ hany]
    rfl
open Classical in
theorem grp_sum {m:Mdl} (L:List Ld) (left:List (List Bool)) {N:Nat} (hN:m.cls.length≤N):∀ {r:List Ld} {q:Option Ld},ldL m q r=true→∀ n:Int,
    grpL L left (q.map (·.cls)) r n=n+sumN (fun j=>if (∃ x∈r,x.cls=(j:Int))∧q.map (·.cls)≠some (j:Int) then lgt L j (left.getD j default) else 0) N
  | [],_,_,n=>by
    rw[sumN_congr (g:=fun _=>0) _ fun i _=>by simp]
    have:∀ n,sumN (fun _=>0) n=0:=fun n=>by induction n with | zero=>rfl | succ n ih=>rw[sumN,ih];rfl
    rw[this,grpL];omega
  | x::r,q,h,n=>by
    have hr:=ldL_tail h
    obtain ⟨hx0,hx1,_⟩:=optB_iff.1 (ldL_mem h x (by simp)).1
    have h0:=grp_sum L left hN hr
    simp only[Option.map_some] at h0
    rw[grpL,h0]
    by_cases hq:q.map (·.cls)=some x.cls
    · rw[if_pos hq,hq]
      congr 1
      refine sumN_congr _ fun j _=>?_
      congr 1
      rw[eq_iff_iff]
      simp only[ne_eq,Option.some.injEq]
      refine and_congr_left fun hj=>⟨fun ⟨y,hy,e⟩=>⟨y,by simp[hy],e⟩,?_⟩
      rintro ⟨y,hy,e⟩
      rcases List.mem_cons.1 hy with rfl | hy
      · exact absurd e hj
      · exact⟨y,hy,e⟩
    · rw[if_neg hq,sumN_congr (f:=fun j=>if (∃ y∈x::r,y.cls=(j:Int))∧q.map (·.cls)≠some (j:Int) then lgt L j (left.getD j default) else 0)
        (g:=fun j=>if j=x.cls.toNat then (if (∃ y∈r,y.cls=(j:Int))∧some x.cls≠some (j:Int) then lgt L j (left.getD j default) else 0)+lgt L x.cls (left.getD x.cls.toNat default) else (if (∃ y∈r,y.cls=(j:Int))∧some x.cls≠some (j:Int) then lgt L j (left.getD j default) else 0)) _ fun j _=>by
        have hxn:((x.cls.toNat:Nat):Int)=x.cls:=Int.toNat_of_nonneg hx0
        by_cases e:j=x.cls.toNat
        · subst e
          rw[if_pos ⟨⟨x,by simp,hxn.symm⟩,by rw[hxn];exact hq⟩,if_pos rfl,if_neg (by rw[hxn];simp),hxn];omega
        · rw[if_neg e]
          congr 1
          rw[eq_iff_iff]
          constructor
          · rintro ⟨⟨y,hy,hyj⟩,_⟩
            rcases List.mem_cons.1 hy with rfl | hy
            · omega
            · exact⟨⟨y,hy,hyj⟩,by simp only[ne_eq,Option.some.injEq];omega⟩
          · rintro ⟨⟨y,hy,hyj⟩,_⟩
            refine⟨⟨y,by simp[hy],hyj⟩,fun hqj=>?_⟩
            cases q with
            | none=>simp at hqj
            | some q =>
              have h6:=ldL_gt h y (by simp[hy])
              have h7:=ldL_gt h x (by simp)
              have h8:=ldL_gt hr y hy
              simp only[Option.map_some,Option.some.injEq] at hqj hq
              omega,sumN_one,if_pos (by omega)]
      omega
theorem cnt_eq {m:Mdl} (hm:VM m) {left:List (List Bool)} (hf:FitsP m left) {c:Ct} (hc:ctB m c=true) :
    cntP left c=leastV left c∧(cntP left c=1099511627776↔(decide (c.pen=1099511627776) && decide (0<leastV left c))=true):=by
  obtain ⟨_,q2,q3,q4⟩:=ctB_iff hc
  have hw:∀ x∈c.loads,1≤x.wt∧x.wt≤1000:=fun x hx=>(ldL_mem q4 x hx).2
  have hs:grpL c.loads left none c.loads (-c.most) = -c.most+lowS c.loads 0 left 0:=by
    have:=grp_sum (m:=m) c.loads left (Nat.le_refl _) (q:=none) q4 (-c.most)
    rw[Option.map_none] at this
    rw[this,lowS_eq,Int.zero_add,hf.1]
    congr 1
    refine sumN_congr _ fun j _=>?_
    rw[Nat.zero_add]
    split
    · exact lgt_low q4 _ _
    · rename_i hn
      rw[lowC_none fun x hx e=>hn ⟨⟨x,hx,e⟩,by simp⟩]
  have hr:=lowS_rg hw left
  have h24:=hm.cls
  rw[hf.1] at hr
  unfold cntP leastV
  rw[hs]
  generalize lowS c.loads 0 left 0=s at *
  unfold timesP excV
  unfold priceB at q3
  rw[decide_eq_true_eq] at q3
  by_cases h0:s≤c.most
  · rw[Int.max_eq_right (by omega),if_neg (by omega),if_pos h0]
    simp<;>omega
  rw[Int.max_eq_left (by omega),if_neg h0,show -c.most+s=s - c.most by omega]
  rcases q3 with q3 | q3
  · rw[if_neg (by omega)]
    have h1:(s - c.most) * c.pen≤24000 * 1048576:=Int.mul_le_mul (by omega) (by omega) (by omega) (by omega)
    refine⟨rfl,?_⟩
    rw[decide_eq_false (by omega:¬ c.pen=1099511627776),Bool.false_and]
    constructor
    · intro h;omega
    · intro h;simp at h
  · rw[q3,if_pos ⟨by omega,rfl⟩,show min ((s - c.most) * 1099511627776) 1099511627776=(1099511627776:Int) by omega]
    simp
theorem pkP_seq {m:Mdl} (hm:VM m) {left:List (List Bool)} (hf:FitsP m left):∀ (k i:Nat) (n:Int),i+k=m.cts.length→pkP left (m.cts.drop i) n=seqP ((List.range' i k).map fun j=>pkV m left j) n
  | 0,i,n,h=>by rw[List.drop_eq_nil_of_le (by omega)];rfl
  | k+1,i,n,h=>by
    have hi:i<m.cts.length:=by omega
    obtain ⟨h1,h2⟩:=cnt_eq hm hf (hm.ct _ (getD_mem (d:=default) hi))
    rw[getD_drop0 m.cts i default hi,pkP,List.range'_succ,List.map_cons,seqP,pkP_seq hm hf k (i+1) _ (by omega)]
    unfold pkV
    dsimp only
    rw[h1] at h2 ⊢
    by_cases h3:leastV left (m.cts.getD i default)=1099511627776
    · rw[if_pos h3,h2.1 h3];rfl
    · rw[if_neg h3]
      cases hb:(decide ((m.cts.getD i default).pen=1099511627776) && decide (0<leastV left (m.cts.getD i default))) with
      | true=>exact absurd (h2.2 hb) h3
      | false=>rfl
theorem price_eq {m:Mdl} (hm:VM m) {left:List (List Bool)} (hf:FitsP m left):priceV m left=valV m left (S0 m,T0 m):=by
  have h1:=pcP_seq hm left m.cls.length 0 0 (by omega)
  have h2:=fun n=>ppP_seq hm hf m.prs.length 0 n (by omega)
  have h3:=fun n=>pkP_seq hm hf m.cts.length 0 n (by omega)
  simp only[List.drop_zero,← List.range_eq_range'] at h1 h2 h3
  unfold priceV valV
  rw[h1]
  show endP (pkE m left (ppE m left (seqP (PC left (S0 m) m.cls.length) 0)))=_
  have h2':∀ n,ppP m left m.prs n=seqP (PP m left (T0 m) m.prs.length) n:=h2
  have h3':∀ n,pkP left m.cts n=seqP (PK m left m.cts.length) n:=h3
  rw[seqP_acc]
  generalize accV (PC left (S0 m) m.cls.length) (0,false)=z
  obtain ⟨a,b⟩:=z
  cases b
  · simp only[ppE,h2',seqP_acc,Bool.false_eq_true,if_false]
    generalize accV (PP m left (T0 m) m.prs.length) (a,false)=z
    obtain ⟨a2,b2⟩:=z
    cases b2
    · simp only[pkE,h3',seqP_acc,Bool.false_eq_true,if_false]
      generalize accV (PK m left m.cts.length) (a2,false)=z
      obtain ⟨a3,b3⟩:=z
      cases b3<;>simp[endP]
    · simp only[if_true,pkE,endP,accV_t]
  · simp only[if_true,ppE,pkE,endP]
    have:∀ l n,(accV l (n,true))=((accV l (n,true)).1,true):=fun l n=>Prod.ext rfl (accV_t l n)
    rw[this,this (PK m left m.cts.length)]
    rfl
end T

