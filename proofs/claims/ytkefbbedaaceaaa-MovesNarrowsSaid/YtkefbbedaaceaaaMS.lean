import Derived.Test.YtkefbbedaaceaaaMR
set_option linter.unusedVariables false
set_option linter.unusedSimpArgs false
open Go Go.Am
namespace T
theorem sumN_mem {f:Nat→Int}:∀ (n:Nat),(∀ i<n,0≤f i)→0≤sumN f n∧∀ i<n,f i≤sumN f n
  | 0,_=>⟨Int.le_refl _,fun i h=>by omega⟩
  | n+1,h=>by
    have h1:=sumN_mem n fun i hi=>h i (by omega)
    have h2:=h n (by omega)
    rw[sumN]
    refine⟨by omega,fun i hi=>?_⟩
    by_cases e:i=n
    · subst e;omega
    · have:=h1.2 i (by omega);omega
theorem sumN_le {f g:Nat→Int}:∀ (n:Nat),(∀ i<n,f i≤g i)→sumN f n≤sumN g n
  | 0,_=>Int.le_refl _
  | n+1,h=>by
    have:=sumN_le n fun i hi=>h i (by omega)
    have:=h n (by omega)
    rw[sumN,sumN];omega
theorem ownP_in {m:Mdl} {plan:List Int} (hm:VM m) (hp:FP m plan) {i:Nat} (hi:i<m.cls.length):In41 (ownP m plan i):=by
  have h:=fp_get hp hi
  have hl:=getD_mem (l:=m.cls) (i:=i) (d:=default) hi
  exact ownS_in (hm.chs _ hl _ (getD_mem (l:=m.cls.getD i default) (i:=(plan.getD i 0).toNat) (d:=default) (by omega)))
theorem sg0 {m:Mdl} {plan:List Int} (hp:FP m plan) {i:Nat} (hi:i<m.cls.length):sgP plan (S0 m,T0 m) i=ofN (ownP m plan i):=by
  have h:=fp_get hp hi
  unfold sgP S0
  dsimp only
  rw[map_getD _ _ _ hi]
  unfold firstV ownV
  rw[List.map_map,map_getD _ _ _ (by omega)]
  rfl
theorem ix_lt {m:Mdl} {plan:List Int} (hm:VM m) (hp:FP m plan) {p:Pr} (hpb:pairB m p=true):ixP m plan p<p.tab.length:=by
  obtain ⟨q1,q2,q3,q4,q5⟩:=pairB_iff hpb
  have ha:=fp_get hp (j:=p.fst.toNat) (by omega)
  have hb:=fp_get hp (j:=p.snd.toNat) (by omega)
  have hl1:=hm.opt _ (getD_mem (l:=m.cls) (i:=p.fst.toNat) (d:=default) (by omega))
  have hl2:=hm.opt _ (getD_mem (l:=m.cls) (i:=p.snd.toNat) (d:=default) (by omega))
  have hix:=entry_idx ha hb (by omega) (by omega)
  unfold ixP
  omega
theorem tg0 {m:Mdl} {plan:List Int} (hm:VM m) (hp:FP m plan) {i:Nat} (hi:i<m.prs.length):tgP m plan (S0 m,T0 m) i=ofN (entP m plan (m.prs.getD i default)):=by
  have hpb:=prsL_mem hm.pr _ (getD_mem (l:=m.prs) (i:=i) (d:=default) hi)
  have hix:=ix_lt hm hp hpb
  unfold tgP T0
  dsimp only
  rw[map_getD _ _ _ hi]
  unfold firstV
  rw[map_getD _ _ _ hix]
  unfold entP entryV ixP
  rfl
theorem excP_in {m:Mdl} {plan:List Int} {c:Ct} (hc:ctB m c=true):In41 (excP plan c):=excV_in (price_in (ctB_iff hc).2.2.1)
theorem entP_in {m:Mdl} {plan:List Int} {p:Pr} (h:pairB m p=true):In41 (entP m plan p):=entry_in h _ _
structure Parts (m:Mdl) (plan:List Int) (left:List (List Bool)) (g:Lg):Prop where
  tot:totalL (rulesV m plan) 0=min (sumN (ownP m plan) m.cls.length+sumN (fun i=>entP m plan (m.prs.getD i default)) m.prs.length+sumN (fun i=>excP plan (m.cts.getD i default)) m.cts.length) 1099511627776
  ps:psP m plan g=sumN (ownP m plan) m.cls.length+sumN (fun i=>entP m plan (m.prs.getD i default)) m.prs.length
  sf:∀ i,i<m.cls.length→(sgP plan g i).2=decide (1099511627776≤ownP m plan i)
  tf:∀ i,i<m.prs.length→(tgP m plan g i).2=decide (1099511627776≤entP m plan (m.prs.getD i default))
  sl:∀ i,i<m.cls.length→(plan.getD i 0).toNat<(g.1.getD i default).length
  tl:∀ i,i<m.prs.length→ixP m plan (m.prs.getD i default)<(g.2.getD i default).length
  a:0≤sumN (ownP m plan) m.cls.length∧∀ i<m.cls.length,ownP m plan i≤sumN (ownP m plan) m.cls.length
  b:0≤sumN (fun i=>entP m plan (m.prs.getD i default)) m.prs.length∧∀ i<m.prs.length,entP m plan (m.prs.getD i default)≤sumN (fun i=>entP m plan (m.prs.getD i default)) m.prs.length
  c:0≤sumN (fun i=>excP plan (m.cts.getD i default)) m.cts.length∧∀ i<m.cts.length,excP plan (m.cts.getD i default)≤sumN (fun i=>excP plan (m.cts.getD i default)) m.cts.length
theorem parts {m:Mdl} {plan:List Int} (hm:VM m) (hp:FP m plan) (left:List (List Bool)) (l:List Mv) (hl:∀ x∈l,mvB m x=true):Parts m plan left (mvsL m l (S0 m,T0 m)):=by
  have hps:=mvsL_ps hm hp l _ _ (by decide) (open_lg hm) hl
  have hlg:=mvsL_lg hm l hl
  refine⟨total_sum hm hp,?_,fun i hi=>?_,fun i hi=>?_,fun i hi=>?_,fun i hi=>?_,sumN_mem _ fun i hi=>(ownP_in hm hp hi).1,sumN_mem _ fun i hi=>(entP_in (prsL_mem hm.pr _ (getD_mem hi))).1,sumN_mem _ fun i hi=>(excP_in (hm.ct _ (getD_mem hi))).1⟩
  · rw[hps.1]
    unfold psP
    rw[sumN_congr m.cls.length fun i hi=>by rw[sg0 hp hi],sumN_congr m.prs.length fun i hi=>by rw[tg0 hm hp hi]]
    rfl
  · rw[hps.2.1,sg0 hp hi];rfl
  · rw[hps.2.2,tg0 hm hp hi];rfl
  · have:=fp_get hp hi
    rw[hlg.sl i hi];omega
  · rw[hlg.tl i hi];exact ix_lt hm hp (prsL_mem hm.pr _ (getD_mem hi))
end T

