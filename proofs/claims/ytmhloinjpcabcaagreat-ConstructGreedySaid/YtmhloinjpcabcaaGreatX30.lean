import Derived.Test.YtmhloinjpcabcaaGreatX25
set_option linter.unusedVariables false
set_option linter.unusedSimpArgs false
set_option linter.unnecessarySimpa false
set_option linter.unusedSectionVars false
set_option maxHeartbeats 64000000
set_option maxRecDepth 20000
open Go Go.Am
namespace T
theorem addR_get (r:List Nm) (i q:Nat) (a:Int) (hi:i<r.length):(addR r i a).getD q default=if i=q then ((r.getD q default).1+a,(r.getD q default).2) else r.getD q default:=by
  unfold addR
  by_cases h:i=q
  · subst h
    rw[if_pos rfl]
    simp only[List.getD_eq_getElem?_getD,List.getElem?_set,hi,if_true,Option.getD_some]
  · rw[if_neg h]
    simp only[List.getD_eq_getElem?_getD,List.getElem?_set_ne h]
theorem addR_ne (r:List Nm) {i q:Nat} (a:Int) (h:i≠q):(addR r i a).getD q default=r.getD q default:=by
  unfold addR
  simp only[List.getD_eq_getElem?_getD,List.getElem?_set_ne h]
theorem subK_miss {f:Nat→Nat} {a:Int} {t:List Nm} {q:Nat}:∀ k:Nat,(∀ j,j<k→f j≠q)→(subK f a k t).getD q default=t.getD q default
  | 0,_=>rfl
  | k+1,h=>by rw[subK,addR_ne _ _ (h k (by omega)),subK_miss k fun j hj=>h j (by omega)]
theorem subK_hit {f:Nat→Nat} {a:Int} {t:List Nm} {q j0:Nat} (h0:f j0=q) (hq:q<t.length):∀ k:Nat,j0<k→(∀ j,j<k→j≠j0→f j≠q)→(subK f a k t).getD q default=((t.getD q default).1 - a,(t.getD q default).2)
  | 0,hk,_=>by omega
  | k+1,hk,h=>by
    rw[subK]
    by_cases e:j0=k
    · subst e
      rw[h0,addR_get _ _ _ _ (by rw[subK_len];exact hq),if_pos rfl,subK_miss j0 fun j hj=>h j (by omega) (by omega)]
      congr 1
    · rw[addR_ne _ _ (h k (by omega) (by omega)),subK_hit h0 hq k (by omega) fun j hj=>h j (by omega)]
theorem lin_ne {a b n j k:Int} (hj:0≤j∧j<n) (hk:0≤k∧k<n) (h:a * n+j=b * n+k):a=b∧j=k:=by
  rcases Int.lt_trichotomy a b with hl | hl | hl
  · have:(a+1) * n≤b * n:=Int.mul_le_mul_of_nonneg_right (by omega) (by omega)
    rw[Int.add_mul,Int.one_mul] at this
    omega
  · subst hl;omega
  · have:(b+1) * n≤a * n:=Int.mul_le_mul_of_nonneg_right (by omega) (by omega)
    rw[Int.add_mul,Int.one_mul] at this
    omega
def sgP (plan:List Int) (g:Lg) (i:Nat):Nm:=(g.1.getD i default).getD (plan.getD i 0).toNat default
def ixP (m:Mdl) (plan:List Int) (p:Pr):Nat:=(plan.getD p.fst.toNat 0 * (m.cls.getD p.snd.toNat default).length+plan.getD p.snd.toNat 0).toNat
def tgP (m:Mdl) (plan:List Int) (g:Lg) (i:Nat):Nm:=(g.2.getD i default).getD (ixP m plan (m.prs.getD i default)) default
theorem getD_setL {α:Type} [Inhabited α] (l:List α) (i j:Nat) (x:α) (hi:i<l.length):(l.set i x).getD j default=if i=j then x else l.getD j default:=by
  by_cases h:i=j
  · subst h;rw[if_pos rfl];simp only[List.getD_eq_getElem?_getD,List.getElem?_set,hi,if_true,Option.getD_some]
  · rw[if_neg h];simp only[List.getD_eq_getElem?_getD,List.getElem?_set_ne h]
structure MvI (m:Mdl) (x:Mv):Prop where
  p:0≤x.pair∧x.pair<m.prs.length
  s:x.side=0∨x.side=1
  c:0≤mvC m x∧mvC m x<m.cls.length
  o:0≤x.opt∧x.opt<(m.cls.getD (mvC m x).toNat default).length
theorem mvB_i {m:Mdl} {x:Mv} (h:mvB m x=true):MvI m x:=by
  unfold mvB at h
  rw[Bool.and_eq_true,decide_eq_true_eq,optB_iff] at h
  exact⟨by omega,by omega,by omega,by omega⟩
theorem fp_get {m:Mdl} {plan:List Int} (hp:FP m plan) {j:Nat} (hj:j<m.cls.length):0≤plan.getD j 0∧plan.getD j 0<(m.cls.getD j default).length:=by
  have h:=optB_iff.1 (hp.get j (by rw[hp.len];exact hj))
  rw[Int.toNat_natCast] at h
  exact h.2.2
abbrev hitP (m:Mdl) (plan:List Int) (x:Mv):Prop:=plan.getD (mvC m x).toNat 0=x.opt
theorem mvS_sg {m:Mdl} {plan:List Int} (hp:FP m plan) {B:Int} {g:Lg} (h:LG m B g) {x:Mv} (hx:MvI m x) (i:Nat) :
    sgP plan (mvS m x g) i=if i=(mvC m x).toNat then (if hitP m plan x then ((sgP plan g i).1+x.amt,(sgP plan g i).2) else sgP plan g i) else sgP plan g i:=by
  obtain ⟨hxp,hxs,hxc,hxo⟩:=hx
  have h1:=h.s
  have h2:=h.sl (mvC m x).toNat (by omega)
  have h3:=fp_get hp (j:=(mvC m x).toNat) (by omega)
  unfold sgP mvS hitP
  dsimp only
  rw[getD_setL _ _ _ _ (by omega)]
  by_cases e:i=(mvC m x).toNat
  · subst e
    rw[if_pos rfl,if_pos rfl,addR_get _ _ _ _ (by omega)]
    by_cases e2:plan.getD (mvC m x).toNat 0=x.opt
    · rw[if_pos e2,if_pos (by rw[e2])]
    · rw[if_neg e2,if_neg (by omega)]
  · rw[if_neg (Ne.symm e),if_neg e]
theorem mvS_tg {m:Mdl} (hm:VM m) {plan:List Int} (hp:FP m plan) {B:Int} {g:Lg} (h:LG m B g) {x:Mv} (hx:MvI m x) (i:Nat) :
    tgP m plan (mvS m x g) i=if i=x.pair.toNat then (if hitP m plan x then ((tgP m plan g i).1 - x.amt,(tgP m plan g i).2) else tgP m plan g i) else tgP m plan g i:=by
  obtain ⟨hxp,hxs,hxc,hxo⟩:=hx
  have h1:=h.t
  have h2:=h.tl x.pair.toNat (by omega)
  unfold tgP mvS
  dsimp only
  rw[getD_setL _ _ _ _ (by omega)]
  by_cases e:i=x.pair.toNat
  rotate_left
  · rw[if_neg (Ne.symm e),if_neg e]
  subst e
  rw[if_pos rfl,if_pos rfl]
  have hpb:=prsL_mem hm.pr _ (getD_mem (l:=m.prs) (i:=x.pair.toNat) (d:=default) (by omega))
  unfold hitP
  unfold mvC at *
  unfold mvF ixP
  generalize m.prs.getD x.pair.toNat default=p at *
  obtain ⟨q1,q2,q3,q4,q5⟩:=pairB_iff hpb
  have ha:=fp_get hp (j:=p.fst.toNat) (by omega)
  have hb:=fp_get hp (j:=p.snd.toNat) (by omega)
  have hl1:=hm.opt _ (getD_mem (l:=m.cls) (i:=p.fst.toNat) (d:=default) (by omega))
  have hl2:=hm.opt _ (getD_mem (l:=m.cls) (i:=p.snd.toNat) (d:=default) (by omega))
  generalize g.2.getD x.pair.toNat default=t at *
  generalize haa:plan.getD p.fst.toNat 0=a at *
  generalize hbb:plan.getD p.snd.toNat 0=b at *
  generalize hna:(m.cls.getD p.fst.toNat default).length=na at *
  generalize hnb2:(m.cls.getD p.snd.toNat default).length=nb at *
  have hix:=entry_idx (x:=a) (y:=b) (a:=na) (b:=nb) ha hb (by omega) (by omega)
  rcases hxs with hs | hs
  · rw[if_pos hs] at hxc hxo
    rw[if_pos hs,if_pos hs,haa]
    rw[hna] at hxo
    dsimp only
    have hox:=entry_idx (x:=x.opt) (y:=b) (a:=na) (b:=nb) hxo hb (by omega) (by omega)
    by_cases e2:a=x.opt
    · rw[if_pos e2]
      refine subK_hit (j0:=b.toNat) ?_ (by omega) nb (by omega) fun j hj hne he=>?_
      · rw[e2,Int.toNat_of_nonneg hb.1]
      · have:=lin_ne (a:=x.opt) (b:=a) (n:=nb) (j:=j) (k:=b) (by omega) (by omega) (by omega)
        omega
    · rw[if_neg e2]
      refine subK_miss nb fun j hj he=>?_
      have:=lin_ne (a:=x.opt) (b:=a) (n:=nb) (j:=j) (k:=b) (by omega) (by omega) (by omega)
      omega
  · rw[if_neg (by omega)] at hxc hxo
    have hs0:¬ x.side=0:=by omega
    rw[if_neg hs0,if_neg hs0,hbb]
    rw[hnb2] at hxo
    dsimp only
    by_cases e2:b=x.opt
    · rw[if_pos e2]
      refine subK_hit (j0:=a.toNat) ?_ (by omega) na (by omega) fun j hj hne he=>?_
      · rw[e2,Int.toNat_of_nonneg ha.1]
      · have hj2:=entry_idx (x:=(j:Int)) (y:=x.opt) (a:=na) (b:=nb) (by omega) hxo (by omega) (by omega)
        have:=lin_ne (a:=(j:Int)) (b:=a) (n:=nb) (j:=x.opt) (k:=b) (by omega) (by omega) (by omega)
        omega
    · rw[if_neg e2]
      refine subK_miss na fun j hj he=>?_
      have hj2:=entry_idx (x:=(j:Int)) (y:=x.opt) (a:=na) (b:=nb) (by omega) hxo (by omega) (by omega)
      have:=lin_ne (a:=(j:Int)) (b:=a) (n:=nb) (j:=x.opt) (k:=b) (by omega) (by omega) (by omega)
      omega
def psP (m:Mdl) (plan:List Int) (g:Lg):Int:=sumN (fun i=>(sgP plan g i).1) m.cls.length+sumN (fun i=>(tgP m plan g i).1) m.prs.length
theorem mvS_ps {m:Mdl} (hm:VM m) {plan:List Int} (hp:FP m plan) {B:Int} {g:Lg} (h:LG m B g) {x:Mv} (hx:MvI m x) :
    psP m plan (mvS m x g)=psP m plan g∧(∀ i,(sgP plan (mvS m x g) i).2=(sgP plan g i).2)∧∀ i,(tgP m plan (mvS m x g) i).2=(tgP m plan g i).2:=by
  have hS:=mvS_sg hp h hx
  have hT:=mvS_tg hm hp h hx
  refine⟨?_,fun i=>?_,fun i=>?_⟩
  · unfold psP
    by_cases hh:hitP m plan x
    · rw[sumN_congr (g:=fun i=>if i=(mvC m x).toNat then (sgP plan g i).1+x.amt else (sgP plan g i).1) m.cls.length fun i _=>by
        rw[hS,if_pos hh];split<;>rfl,sumN_congr (g:=fun i=>if i=x.pair.toNat then (tgP m plan g i).1+-x.amt else (tgP m plan g i).1) m.prs.length fun i _=>by
        rw[hT,if_pos hh];split<;>rfl,sumN_one,sumN_one,if_pos (by have:=hx.c;omega),if_pos (by have:=hx.p;omega)]
      omega
    · rw[sumN_congr (g:=fun i=>(sgP plan g i).1) m.cls.length fun i _=>by rw[hS,if_neg hh];simp,sumN_congr (g:=fun i=>(tgP m plan g i).1) m.prs.length fun i _=>by rw[hT,if_neg hh];simp]
  · rw[hS];split<;>(try split)<;>rfl
  · rw[hT];split<;>(try split)<;>rfl
theorem mvsL_ps {m:Mdl} (hm:VM m) {plan:List Int} (hp:FP m plan):∀ (l:List Mv) (B:Int) (g:Lg),0≤B→LG m B g→(∀ x∈l,mvB m x=true) →
    psP m plan (mvsL m l g)=psP m plan g∧(∀ i,(sgP plan (mvsL m l g) i).2=(sgP plan g i).2)∧∀ i,(tgP m plan (mvsL m l g) i).2=(tgP m plan g i).2
  | [],B,g,_,_,_=>⟨rfl,fun _=>rfl,fun _=>rfl⟩
  | x::r,B,g,hB,h,hx=>by
    have h1:=mvS_ps hm hp h (mvB_i (hx x (by simp)))
    have h2:=mvsL_ps hm hp r _ (mvS m x g) (by omega) (mvS_lg hm hB h (hx x (by simp))) (fun y hy=>hx y (by simp[hy]))
    exact⟨h2.1.trans h1.1,fun i=>(h2.2.1 i).trans (h1.2.1 i),fun i=>(h2.2.2 i).trans (h1.2.2 i)⟩
theorem sumN_mem {f:Nat→Int}:∀ (n:Nat),(∀ i<n,0≤f i)→0≤sumN f n∧∀ i<n,f i≤sumN f n
  | 0,_=>⟨Int.le_refl _,fun i h=>by omega⟩
  | n+1,h=>by
    have h1:=sumN_mem n fun i hi=>h i (by omega)
    have h2:=h n (by omega)
    rw[sumN]
    refine⟨by omega,fun i hi=>?_⟩
    by_cases e:i=n
    · subst e;omega
    · have:=h1.2 i (by omega);omega
theorem ownP_in {m:Mdl} {plan:List Int} (hm:VM m) (hp:FP m plan) {i:Nat} (hi:i<m.cls.length):In41 (ownP m plan i):=by
  have h:=fp_get hp hi
  have hl:=getD_mem (l:=m.cls) (i:=i) (d:=default) hi
  exact ownS_in (hm.chs _ hl _ (getD_mem (l:=m.cls.getD i default) (i:=(plan.getD i 0).toNat) (d:=default) (by omega)))
theorem sg0 {m:Mdl} {plan:List Int} (hp:FP m plan) {i:Nat} (hi:i<m.cls.length):sgP plan (S0 m,T0 m) i=ofN (ownP m plan i):=by
  have h:=fp_get hp hi
  unfold sgP S0
  dsimp only
  rw[map_getD _ _ _ hi]
  unfold firstV ownV
  rw[List.map_map,map_getD _ _ _ (by omega)]
  rfl
theorem ix_lt {m:Mdl} {plan:List Int} (hm:VM m) (hp:FP m plan) {p:Pr} (hpb:pairB m p=true):ixP m plan p<p.tab.length:=by
  obtain ⟨q1,q2,q3,q4,q5⟩:=pairB_iff hpb
  have ha:=fp_get hp (j:=p.fst.toNat) (by omega)
  have hb:=fp_get hp (j:=p.snd.toNat) (by omega)
  have hl1:=hm.opt _ (getD_mem (l:=m.cls) (i:=p.fst.toNat) (d:=default) (by omega))
  have hl2:=hm.opt _ (getD_mem (l:=m.cls) (i:=p.snd.toNat) (d:=default) (by omega))
  have hix:=entry_idx ha hb (by omega) (by omega)
  unfold ixP
  omega
theorem tg0 {m:Mdl} {plan:List Int} (hm:VM m) (hp:FP m plan) {i:Nat} (hi:i<m.prs.length):tgP m plan (S0 m,T0 m) i=ofN (entP m plan (m.prs.getD i default)):=by
  have hpb:=prsL_mem hm.pr _ (getD_mem (l:=m.prs) (i:=i) (d:=default) hi)
  have hix:=ix_lt hm hp hpb
  unfold tgP T0
  dsimp only
  rw[map_getD _ _ _ hi]
  unfold firstV
  rw[map_getD _ _ _ hix]
  unfold entP entryV ixP
  rfl
theorem excP_in {m:Mdl} {plan:List Int} {c:Ct} (hc:ctB m c=true):In41 (excP plan c):=excV_in (price_in (ctB_iff hc).2.2.1)
theorem entP_in {m:Mdl} {plan:List Int} {p:Pr} (h:pairB m p=true):In41 (entP m plan p):=entry_in h _ _
structure Parts (m:Mdl) (plan:List Int) (left:List (List Bool)) (g:Lg):Prop where
  tot:totalL (rulesV m plan) 0=min (sumN (ownP m plan) m.cls.length+sumN (fun i=>entP m plan (m.prs.getD i default)) m.prs.length+sumN (fun i=>excP plan (m.cts.getD i default)) m.cts.length) 1099511627776
  ps:psP m plan g=sumN (ownP m plan) m.cls.length+sumN (fun i=>entP m plan (m.prs.getD i default)) m.prs.length
  sf:∀ i,i<m.cls.length→(sgP plan g i).2=decide (1099511627776≤ownP m plan i)
  tf:∀ i,i<m.prs.length→(tgP m plan g i).2=decide (1099511627776≤entP m plan (m.prs.getD i default))
  sl:∀ i,i<m.cls.length→(plan.getD i 0).toNat<(g.1.getD i default).length
  tl:∀ i,i<m.prs.length→ixP m plan (m.prs.getD i default)<(g.2.getD i default).length
  a:0≤sumN (ownP m plan) m.cls.length∧∀ i<m.cls.length,ownP m plan i≤sumN (ownP m plan) m.cls.length
  b:0≤sumN (fun i=>entP m plan (m.prs.getD i default)) m.prs.length∧∀ i<m.prs.length,entP m plan (m.prs.getD i default)≤sumN (fun i=>entP m plan (m.prs.getD i default)) m.prs.length
  c:0≤sumN (fun i=>excP plan (m.cts.getD i default)) m.cts.length∧∀ i<m.cts.length,excP plan (m.cts.getD i default)≤sumN (fun i=>excP plan (m.cts.getD i default)) m.cts.length
theorem parts {m:Mdl} {plan:List Int} (hm:VM m) (hp:FP m plan) (left:List (List Bool)) (l:List Mv) (hl:∀ x∈l,mvB m x=true):Parts m plan left (mvsL m l (S0 m,T0 m)):=by
  have hps:=mvsL_ps hm hp l _ _ (by decide) (open_lg hm) hl
  have hlg:=mvsL_lg hm l hl
  refine⟨total_sum hm hp,?_,fun i hi=>?_,fun i hi=>?_,fun i hi=>?_,fun i hi=>?_,sumN_mem _ fun i hi=>(ownP_in hm hp hi).1,sumN_mem _ fun i hi=>(entP_in (prsL_mem hm.pr _ (getD_mem hi))).1,sumN_mem _ fun i hi=>(excP_in (hm.ct _ (getD_mem hi))).1⟩
  · rw[hps.1]
    unfold psP
    rw[sumN_congr m.cls.length fun i hi=>by rw[sg0 hp hi],sumN_congr m.prs.length fun i hi=>by rw[tg0 hm hp hi]]
    rfl
  · rw[hps.2.1,sg0 hp hi];rfl
  · rw[hps.2.2,tg0 hm hp hi];rfl
  · have:=fp_get hp hi
    rw[hlg.sl i hi];omega
  · rw[hlg.tl i hi];exact ix_lt hm hp (prsL_mem hm.pr _ (getD_mem hi))
def timesP (n pen:Int):Int:=if 0<n∧pen=1099511627776 then 1099511627776 else min (n * pen) 1099511627776
def seqP:List (Int × Bool)→Int→Option Int
  | [],n=>some n
  | p::r,n=>if p.2=false then none else seqP r (n+p.1)
end T

