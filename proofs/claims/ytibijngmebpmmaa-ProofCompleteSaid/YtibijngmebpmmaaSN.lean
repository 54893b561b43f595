import Derived.Test.YtibijngmebpmmaaSM
import Derived.Test.YtibijngmebpmmaaSA
set_option linter.unusedVariables false
set_option linter.unusedSimpArgs false
set_option linter.unnecessarySimpa false
open Go Go.Am
namespace T
structure Sat (R:Int) (out:List Int) (v:Int):Prop where
  ok:OutOK R out
  v0:0≤v
  eq:min (sumL out) 1099511627776=min v 1099511627776
theorem sumL_upd:∀ (l:List Int) (i:Nat) (x:Int),i<l.length→sumL (l.set i x)=sumL l - l.getD i 0+x
  | [],i,x,h=>by simp at h
  | y::r,0,x,_=>by simp only[List.set_cons_zero,sumL,List.getD_cons_zero];omega
  | y::r,i+1,x,h=>by
    have:=sumL_upd r i x (by simpa using h)
    simp only[List.set_cons_succ,sumL,List.getD_cons_succ];omega
theorem Sat.add {R:Int} {out:List Int} {v r d:Int} (h:Sat R out v) (hr:0≤r∧r<R) (hd:In41 d):Sat R (addAt out r d) (v+d):=by
  have hlen:=h.ok.1
  have hi:r.toNat<out.length:=by omega
  have hs:=sumL_mem h.ok.2 _ (getD_mem (d:=(0:Int)) hi)
  have hset:=sumL_upd out r.toNat (addC (out.getD r.toNat 0) d) hi
  have hg:=h.ok.get r.toNat
  have he:=h.eq
  have hv:=h.v0
  unfold In41 at hg
  have hd2:=hd
  unfold In41 at hd2
  refine⟨h.ok.add hd,by omega,?_⟩
  unfold addAt
  rw[hset]
  unfold addC
  omega
theorem Sat.le {R:Int} {out:List Int} {v w:Int} (h:Sat R out v) (hw:0≤w) (e:min v 1099511627776=min w 1099511627776):Sat R out w:=⟨h.ok,hw,h.eq.trans e⟩
theorem sat_ch {R:Int}:∀ (l:List (Int × Int)) (out:List Int) (v n:Int),(∀ c∈l,ruleB R c.1=true∧priceB c.2=true)→0≤v→In41 n→Sat R out (v+n)→Sat R (chargesL l out) (v+(l.map (·.2)).foldl addC n)
  | [],out,v,n,_,_,_,h=>h
  | c::r,out,v,n,hc,hv,hn0,h=>by
    rw[chargesL]
    have h1:=hc c (by simp)
    have hr:=h1.1
    rw[ruleB,decide_eq_true_eq] at hr
    have hp:=price_in h1.2
    have h2:=h.add hr hp
    refine sat_ch r _ v (addC n c.2) (fun x hx=>hc x (by simp[hx])) hv (addC_in hn0 hp) (h2.le ?_ ?_)
    · have:=addC_in hn0 hp;unfold In41 at this;omega
    · unfold In41 at hp hn0;unfold addC;omega
theorem sat_plan {m:Mdl} (hm:VM m):∀ (plan:List Int) (i:Nat) (out:List Int) (v:Int),(∀ j,j<plan.length→optB m ((i+j:Nat):Int) (plan.getD j 0)=true) →
    Sat m.rules out v→Sat m.rules (planC m i plan out) (v+sumN (fun j=>ownS ((m.cls.getD (i+j) default).getD (plan.getD j 0).toNat default)) plan.length)
  | [],i,out,v,_,h=>by show Sat m.rules out (v+0);rw[Int.add_zero];exact h
  | o::r,i,out,v,hg,h=>by
    rw[planC]
    have h0:=hg 0 (by simp)
    rw[List.getD_cons_zero,Nat.add_zero] at h0
    obtain ⟨b1,b2,b3,b4⟩:=optB_iff.1 h0
    rw[Int.toNat_natCast] at b4
    rw[if_neg (by omega)]
    have hl:=getD_mem (l:=m.cls) (i:=i) (d:=default) (by omega)
    have ho:=getD_mem (l:=m.cls.getD i default) (i:=o.toNat) (d:=default) (by omega)
    have hch:=hm.chs _ hl _ ho
    have h1:=sat_ch _ out v 0 (chL_mem hch) h.v0 (by unfold In41;decide) (by rw[Int.add_zero];exact h)
    have h2:=sat_plan hm r (i+1) _ _ (fun j hj=>by
      have:=hg (j+1) (by simpa using hj)
      rwa [List.getD_cons_succ,show i+(j+1)=i+1+j by omega] at this) h1
    rw[List.length_cons,sumN_head]
    simp only[List.getD_cons_zero,List.getD_cons_succ,Nat.add_zero]
    rw[← Int.add_assoc]
    rw[sumN_congr (g:=fun j=>ownS ((m.cls.getD (i+(j+1)) default).getD (r.getD j 0).toNat default)) r.length fun j _=>by rw[show i+1+j=i+(j+1) by omega]] at h2
    exact h2
def entP (m:Mdl) (plan:List Int) (p:Pr):Int:=entryV m p (plan.getD p.fst.toNat 0) (plan.getD p.snd.toNat 0)
theorem sat_prs {m:Mdl} {plan:List Int} (hp:FP m plan):∀ (l:List Pr) (out:List Int) (v:Int),(∀ p∈l,pairB m p=true)→Sat m.rules out v →
    Sat m.rules (pairC m plan l out) (v+sumN (fun i=>entP m plan (l.getD i default)) l.length)
  | [],out,v,_,h=>by show Sat m.rules out (v+0);rw[Int.add_zero];exact h
  | p::r,out,v,hg,h=>by
    rw[pairC]
    have hpb:=hg p (by simp)
    obtain ⟨q1,q2,q3,q4,q5⟩:=pairB_iff hpb
    have hpl:=hp.len
    have g1:=hp.get p.fst.toNat (by omega)
    have g2:=hp.get p.snd.toNat (by omega)
    have a1:=optB_iff.1 g1
    have a2:=optB_iff.1 g2
    rw[if_pos ⟨a1.2.2.1,a2.2.2.1⟩]
    have h2:=sat_prs hp r _ _ (fun x hx=>hg x (by simp[hx])) (h.add q1 (entry_in hpb (plan.getD p.fst.toNat 0) (plan.getD p.snd.toNat 0)))
    rw[List.length_cons,sumN_head]
    simp only[List.getD_cons_zero,List.getD_cons_succ]
    rw[← Int.add_assoc]
    exact h2
def excP (plan:List Int) (c:Ct):Int:=excV c.most c.pen (loadS plan c.loads 0)
theorem sat_cts {m:Mdl} {plan:List Int}:∀ (l:List Ct) (out:List Int) (v:Int),(∀ c∈l,ctB m c=true)→Sat m.rules out v →
    Sat m.rules (countC plan l out) (v+sumN (fun i=>excP plan (l.getD i default)) l.length)
  | [],out,v,_,h=>by show Sat m.rules out (v+0);rw[Int.add_zero];exact h
  | c::r,out,v,hg,h=>by
    rw[countC]
    obtain ⟨q1,q2,q3,q4⟩:=ctB_iff (hg c (by simp))
    have h2:=sat_cts (plan:=plan) r _ _ (fun x hx=>hg x (by simp[hx])) (h.add q1 (excV_in (most:=c.most) (sum:=loadS plan c.loads 0) (price_in q3)))
    rw[List.length_cons,sumN_head]
    simp only[List.getD_cons_zero,List.getD_cons_succ]
    rw[← Int.add_assoc]
    exact h2
def ownP (m:Mdl) (plan:List Int) (j:Nat):Int:=ownS ((m.cls.getD j default).getD (plan.getD j 0).toNat default)
theorem total_sum {m:Mdl} {plan:List Int} (hv:VM m) (hp:FP m plan):totalL (rulesV m plan) 0 =
    min (sumN (ownP m plan) m.cls.length+sumN (fun i=>entP m plan (m.prs.getD i default)) m.prs.length+sumN (fun i=>excP plan (m.cts.getD i default)) m.cts.length) 1099511627776:=by
  have h0:Sat m.rules (List.replicate m.rules.toNat 0) 0:=by
    refine⟨OutOK.rep hv.rul.1,by decide,?_⟩
    have:∀ k,sumL (List.replicate k 0)=0:=by
      intro k
      induction k with
      | zero=>rfl
      | succ k ih=>rw[List.replicate_succ,sumL,ih];rfl
    rw[this]
  have h1:=sat_plan hv plan 0 _ _ (fun j hj=>by rw[Nat.zero_add];exact hp.get j hj) h0
  have h2:=sat_prs hp m.prs _ _ (prsL_mem hv.pr) h1
  have h3:=sat_cts (plan:=plan) m.cts _ _ hv.ct h2
  have htot:=totalL_sum (rulesV_ok hv plan).2 (n:=0) (by unfold In41;decide)
  have he:=h3.eq
  change min (sumL (rulesV m plan)) _=_ at he
  rw[htot,Int.zero_add,he,Int.zero_add,hp.len]
  simp only[Nat.zero_add]
  rfl
end T
open Go Go.Am
namespace T
theorem addR_get (r:List Nm) (i q:Nat) (a:Int) (hi:i<r.length):(addR r i a).getD q default=if i=q then ((r.getD q default).1+a,(r.getD q default).2) else r.getD q default:=by
  unfold addR
  by_cases h:i=q
  · subst h
    rw[if_pos rfl]
    simp only[List.getD_eq_getElem?_getD,List.getElem?_set,hi,if_true,Option.getD_some]
  · rw[if_neg h]
    simp only[List.getD_eq_getElem?_getD,List.getElem?_set_ne h]
theorem addR_ne (r:List Nm) {i q:Nat} (a:Int) (h:i≠q):(addR r i a).getD q default=r.getD q default:=by
  unfold addR
  simp only[List.getD_eq_getElem?_getD,List.getElem?_set_ne h]
theorem subK_miss {f:Nat→Nat} {a:Int} {t:List Nm} {q:Nat}:∀ k:Nat,(∀ j,j<k→f j≠q)→(subK f a k t).getD q default=t.getD q default
  | 0,_=>rfl
  | k+1,h=>by rw[subK,addR_ne _ _ (h k (by omega)),subK_miss k fun j hj=>h j (by omega)]
theorem subK_hit {f:Nat→Nat} {a:Int} {t:List Nm} {q j0:Nat} (h0:f j0=q) (hq:q<t.length):∀ k:Nat,j0<k→(∀ j,j<k→j≠j0→f j≠q)→(subK f a k t).getD q default=((t.getD q default).1 - a,(t.getD q default).2)
  | 0,hk,_=>by omega
  | k+1,hk,h=>by
    rw[subK]
    by_cases e:j0=k
    · subst e
      rw[h0,addR_get _ _ _ _ (by rw[subK_len];exact hq),if_pos rfl,subK_miss j0 fun j hj=>h j (by omega) (by omega)]
      congr 1
    · rw[addR_ne _ _ (h k (by omega) (by omega)),subK_hit h0 hq k (by omega) fun j hj=>h j (by omega)]
theorem lin_ne {a b n j k:Int} (hj:0≤j∧j<n) (hk:0≤k∧k<n) (h:a * n+j=b * n+k):a=b∧j=k:=by
  rcases Int.lt_trichotomy a b with hl | hl | hl
  · have:(a+1) * n≤b * n:=Int.mul_le_mul_of_nonneg_right (by omega) (by omega)
    rw[Int.add_mul,Int.one_mul] at this
    omega
  · subst hl;omega
  · have:(b+1) * n≤a * n:=Int.mul_le_mul_of_nonneg_right (by omega) (by omega)
    rw[Int.add_mul,Int.one_mul] at this
    omega
def sgP (plan:List Int) (g:Lg) (i:Nat):Nm:=(g.1.getD i default).getD (plan.getD i 0).toNat default
def ixP (m:Mdl) (plan:List Int) (p:Pr):Nat:=(plan.getD p.fst.toNat 0 * (m.cls.getD p.snd.toNat default).length+plan.getD p.snd.toNat 0).toNat
def tgP (m:Mdl) (plan:List Int) (g:Lg) (i:Nat):Nm:=(g.2.getD i default).getD (ixP m plan (m.prs.getD i default)) default
theorem getD_setL {α:Type} [Inhabited α] (l:List α) (i j:Nat) (x:α) (hi:i<l.length):(l.set i x).getD j default=if i=j then x else l.getD j default:=by
  by_cases h:i=j
  · subst h;rw[if_pos rfl];simp only[List.getD_eq_getElem?_getD,List.getElem?_set,hi,if_true,Option.getD_some]
  · rw[if_neg h];simp only[List.getD_eq_getElem?_getD,List.getElem?_set_ne h]
structure MvI (m:Mdl) (x:Mv):Prop where
  p:0≤x.pair∧x.pair<m.prs.length
  s:x.side=0∨x.side=1
  c:0≤mvC m x∧mvC m x<m.cls.length
  o:0≤x.opt∧x.opt<(m.cls.getD (mvC m x).toNat default).length
theorem mvB_i {m:Mdl} {x:Mv} (h:mvB m x=true):MvI m x:=by
  unfold mvB at h
  rw[Bool.and_eq_true,decide_eq_true_eq,optB_iff] at h
  exact⟨by omega,by omega,by omega,by omega⟩
theorem fp_get {m:Mdl} {plan:List Int} (hp:FP m plan) {j:Nat} (hj:j<m.cls.length):0≤plan.getD j 0∧plan.getD j 0<(m.cls.getD j default).length:=by
  have h:=optB_iff.1 (hp.get j (by rw[hp.len];exact hj))
  rw[Int.toNat_natCast] at h
  exact h.2.2
abbrev hitP (m:Mdl) (plan:List Int) (x:Mv):Prop:=plan.getD (mvC m x).toNat 0=x.opt
theorem mvS_sg {m:Mdl} {plan:List Int} (hp:FP m plan) {B:Int} {g:Lg} (h:LG m B g) {x:Mv} (hx:MvI m x) (i:Nat) :
    sgP plan (mvS m x g) i=if i=(mvC m x).toNat then (if hitP m plan x then ((sgP plan g i).1+x.amt,(sgP plan g i).2) else sgP plan g i) else sgP plan g i:=by
  obtain ⟨hxp,hxs,hxc,hxo⟩:=hx
  have h1:=h.s
  have h2:=h.sl (mvC m x).toNat (by omega)
  have h3:=fp_get hp (j:=(mvC m x).toNat) (by omega)
  unfold sgP mvS hitP
  dsimp only
  rw[getD_setL _ _ _ _ (by omega)]
  by_cases e:i=(mvC m x).toNat
  · subst e
    rw[if_pos rfl,if_pos rfl,addR_get _ _ _ _ (by omega)]
    by_cases e2:plan.getD (mvC m x).toNat 0=x.opt
    · rw[if_pos e2,if_pos (by rw[e2])]
    · rw[if_neg e2,if_neg (by omega)]
  · rw[if_neg (Ne.symm e),if_neg e]
theorem mvS_tg {m:Mdl} (hm:VM m) {plan:List Int} (hp:FP m plan) {B:Int} {g:Lg} (h:LG m B g) {x:Mv} (hx:MvI m x) (i:Nat) :
    tgP m plan (mvS m x g) i=if i=x.pair.toNat then (if hitP m plan x then ((tgP m plan g i).1 - x.amt,(tgP m plan g i).2) else tgP m plan g i) else tgP m plan g i:=by
  obtain ⟨hxp,hxs,hxc,hxo⟩:=hx
  have h1:=h.t
  have h2:=h.tl x.pair.toNat (by omega)
  unfold tgP mvS
  dsimp only
  rw[getD_setL _ _ _ _ (by omega)]
  by_cases e:i=x.pair.toNat
  rotate_left
  · rw[if_neg (Ne.symm e),if_neg e]
  subst e
  rw[if_pos rfl,if_pos rfl]
  have hpb:=prsL_mem hm.pr _ (getD_mem (l:=m.prs) (i:=x.pair.toNat) (d:=default) (by omega))
  unfold hitP
  unfold mvC at *
  unfold mvF ixP
  generalize m.prs.getD x.pair.toNat default=p at *
  obtain ⟨q1,q2,q3,q4,q5⟩:=pairB_iff hpb
  have ha:=fp_get hp (j:=p.fst.toNat) (by omega)
  have hb:=fp_get hp (j:=p.snd.toNat) (by omega)
  have hl1:=hm.opt _ (getD_mem (l:=m.cls) (i:=p.fst.toNat) (d:=default) (by omega))
  have hl2:=hm.opt _ (getD_mem (l:=m.cls) (i:=p.snd.toNat) (d:=default) (by omega))
  generalize g.2.getD x.pair.toNat default=t at *
  generalize haa:plan.getD p.fst.toNat 0=a at *
  generalize hbb:plan.getD p.snd.toNat 0=b at *
  generalize hna:(m.cls.getD p.fst.toNat default).length=na at *
  generalize hnb2:(m.cls.getD p.snd.toNat default).length=nb at *
  have hix:=entry_idx (x:=a) (y:=b) (a:=na) (b:=nb) ha hb (by omega) (by omega)
  rcases hxs with hs | hs
  · rw[if_pos hs] at hxc hxo
    rw[if_pos hs,if_pos hs,haa]
    rw[hna] at hxo
    dsimp only
    have hox:=entry_idx (x:=x.opt) (y:=b) (a:=na) (b:=nb) hxo hb (by omega) (by omega)
    by_cases e2:a=x.opt
    · rw[if_pos e2]
      refine subK_hit (j0:=b.toNat) ?_ (by omega) nb (by omega) fun j hj hne he=>?_
      · rw[e2,Int.toNat_of_nonneg hb.1]
      · have:=lin_ne (a:=x.opt) (b:=a) (n:=nb) (j:=j) (k:=b) (by omega) (by omega) (by omega)
        omega
    · rw[if_neg e2]
      refine subK_miss nb fun j hj he=>?_
      have:=lin_ne (a:=x.opt) (b:=a) (n:=nb) (j:=j) (k:=b) (by omega) (by omega) (by omega)
      omega
  · rw[if_neg (by omega)] at hxc hxo
    have hs0:¬ x.side=0:=by omega
    rw[if_neg hs0,if_neg hs0,hbb]
    rw[hnb2] at hxo
    dsimp only
    by_cases e2:b=x.opt
    · rw[if_pos e2]
      refine subK_hit (j0:=a.toNat) ?_ (by omega) na (by omega) fun j hj hne he=>?_
      · rw[e2,Int.toNat_of_nonneg ha.1]
      · have hj2:=entry_idx (x:=(j:Int)) (y:=x.opt) (a:=na) (b:=nb) (by omega) hxo (by omega) (by omega)
        have:=lin_ne (a:=(j:Int)) (b:=a) (n:=nb) (j:=x.opt) (k:=b) (by omega) (by omega) (by omega)
        omega
    · rw[if_neg e2]
      refine subK_miss na fun j hj he=>?_
      have hj2:=entry_idx (x:=(j:Int)) (y:=x.opt) (a:=na) (b:=nb) (by omega) hxo (by omega) (by omega)
      have:=lin_ne (a:=(j:Int)) (b:=a) (n:=nb) (j:=x.opt) (k:=b) (by omega) (by omega) (by omega)
      omega
def psP (m:Mdl) (plan:List Int) (g:Lg):Int:=sumN (fun i=>(sgP plan g i).1) m.cls.length+sumN (fun i=>(tgP m plan g i).1) m.prs.length
theorem mvS_ps {m:Mdl} (hm:VM m) {plan:List Int} (hp:FP m plan) {B:Int} {g:Lg} (h:LG m B g) {x:Mv} (hx:MvI m x) :
    psP m plan (mvS m x g)=psP m plan g∧(∀ i,(sgP plan (mvS m x g) i).2=(sgP plan g i).2)∧∀ i,(tgP m plan (mvS m x g) i).2=(tgP m plan g i).2:=by
  have hS:=mvS_sg hp h hx
  have hT:=mvS_tg hm hp h hx
  refine⟨?_,fun i=>?_,fun i=>?_⟩
  · unfold psP
    by_cases hh:hitP m plan x
    · rw[sumN_congr (g:=fun i=>if i=(mvC m x).toNat then (sgP plan g i).1+x.amt else (sgP plan g i).1) m.cls.length fun i _=>by
        rw[hS,if_pos hh];split<;>rfl,sumN_congr (g:=fun i=>if i=x.pair.toNat then (tgP m plan g i).1+-x.amt else (tgP m plan g i).1) m.prs.length fun i _=>by
        rw[hT,if_pos hh];split<;>rfl,sumN_one,sumN_one,if_pos (by have:=hx.c;omega),if_pos (by have:=hx.p;omega)]
      omega
    · rw[sumN_congr (g:=fun i=>(sgP plan g i).1) m.cls.length fun i _=>by rw[hS,if_neg hh];simp,sumN_congr (g:=fun i=>(tgP m plan g i).1) m.prs.length fun i _=>by rw[hT,if_neg hh];simp]
  · rw[hS];split<;>(try split)<;>rfl
  · rw[hT];split<;>(try split)<;>rfl
theorem mvsL_ps {m:Mdl} (hm:VM m) {plan:List Int} (hp:FP m plan):∀ (l:List Mv) (B:Int) (g:Lg),0≤B→LG m B g→(∀ x∈l,mvB m x=true) →
    psP m plan (mvsL m l g)=psP m plan g∧(∀ i,(sgP plan (mvsL m l g) i).2=(sgP plan g i).2)∧∀ i,(tgP m plan (mvsL m l g) i).2=(tgP m plan g i).2
  | [],B,g,_,_,_=>⟨rfl,fun _=>rfl,fun _=>rfl⟩
  | x::r,B,g,hB,h,hx=>by
    have h1:=mvS_ps hm hp h (mvB_i (hx x (by simp)))
    have h2:=mvsL_ps hm hp r _ (mvS m x g) (by omega) (mvS_lg hm hB h (hx x (by simp))) (fun y hy=>hx y (by simp[hy]))
    exact⟨h2.1.trans h1.1,fun i=>(h2.2.1 i).trans (h1.2.1 i),fun i=>(h2.2.2 i).trans (h1.2.2 i)⟩
end T
open Go Go.Am
namespace T
theorem lowN_some:∀ (l:List Nm) (s:List Bool) (b:Int × Bool),b.2=true→(lowN l s b).2=true∧(lowN l s b).1≤b.1
  | [],s,b,h=>by cases s<;>exact⟨h,Int.le_refl _⟩
  | p::r,[],b,h=>⟨h,Int.le_refl _⟩
  | p::r,is::s,b,h=>by
    rw[lowN]
    split
    · rename_i hc
      have h2:=lowN_some r s (p.1,true) rfl
      have h3:p.1<b.1:=by
        rcases hc.2.2 with h4 | h4
        · rw[h] at h4;cases h4
        · exact h4
      exact⟨h2.1,by have:=h2.2;dsimp only at this;omega⟩
    · exact lowN_some r s b h
theorem lowN_le:∀ (l:List Nm) (s:List Bool) (b:Int × Bool) (i:Nat),i<l.length→s.getD i false=true→(l.getD i default).2=false→(lowN l s b).2=true∧(lowN l s b).1≤(l.getD i default).1
  | [],s,b,i,h,_,_=>by simp at h
  | p::r,[],b,i,_,h,_=>by simp at h
  | p::r,is::s,b,0,_,h1,h2=>by
    rw[List.getD_cons_zero] at h1 h2 ⊢
    rw[lowN]
    split
    · exact lowN_some r s (p.1,true) rfl
    · rename_i hc
      have hb:b.2=true∧b.1≤p.1:=by
        cases hb2:b.2 with
        | false=>exact absurd ⟨h1,h2,.inl hb2⟩ hc
        | true=>exact⟨rfl,by rcases Int.lt_or_le p.1 b.1 with h | h;exact absurd ⟨h1,h2,.inr h⟩ hc;exact h⟩
      have:=lowN_some r s b hb.1
      exact⟨this.1,by omega⟩
  | p::r,is::s,b,i+1,h,h1,h2=>by
    rw[List.getD_cons_succ] at h1 h2 ⊢
    rw[lowN]
    exact lowN_le r s _ i (by simpa using h) h1 h2
theorem lowN_none:∀ (l:List Nm) (s:List Bool) (b:Int × Bool),(∀ i,s.getD i false=false)→lowN l s b=b
  | [],s,b,_=>by cases s<;>rfl
  | p::r,[],b,_=>rfl
  | p::r,is::s,b,h=>by
    have h0:=h 0
    rw[List.getD_cons_zero] at h0
    rw[lowN,if_neg (by rw[h0];simp)]
    exact lowN_none r s b fun i=>by have:=h (i+1);rwa [List.getD_cons_succ] at this
theorem lowN_one:∀ (l:List Nm) (s:List Bool) (b:Int × Bool) (i:Nat),i<l.length→(∀ j,s.getD j false=decide (j=i))→b.2=false →
    lowN l s b=if (l.getD i default).2=false then ((l.getD i default).1,true) else b
  | [],s,b,i,h,_,_=>by simp at h
  | p::r,[],b,i,_,h,_=>by have:=h i;simp at this
  | p::r,is::s,b,0,_,h,hb=>by
    have h0:=h 0
    rw[List.getD_cons_zero,decide_eq_true rfl] at h0
    rw[List.getD_cons_zero,lowN,lowN_none r s _ fun i=>by have:=h (i+1);rw[List.getD_cons_succ] at this;rw[this];simp]
    by_cases hp:p.2=false
    · rw[if_pos ⟨h0,hp,.inl hb⟩,if_pos hp]
    · rw[if_neg (fun hc=>hp hc.2.1),if_neg hp]
  | p::r,is::s,b,i+1,hi,h,hb=>by
    have h0:=h 0
    rw[List.getD_cons_zero,decide_eq_false (by omega)] at h0
    rw[List.getD_cons_succ,lowN,if_neg (by rw[h0];simp)]
    exact lowN_one r s b i (by simpa using hi) (fun j=>by have:=h (j+1);rw[List.getD_cons_succ] at this;rw[this];simp) hb
theorem accV_fst (f:Nat→Int × Bool) (z:Int × Bool):∀ n,(accV ((List.range n).map f) z).1=z.1+sumN (fun i=>(f i).1) n
  | 0=>by simp[accV,sumN]
  | n+1=>by rw[range_snoc,accV_snoc,sumN];dsimp only;rw[accV_fst f z n];omega
theorem accV_snd (f:Nat→Int × Bool) (z:Int × Bool):∀ n,(accV ((List.range n).map f) z).2=true↔(z.2=true∨∃ i,i<n∧(f i).2=false)
  | 0=>by simp[accV]
  | n+1=>by
    rw[range_snoc,accV_snoc]
    dsimp only
    rw[Bool.or_eq_true,accV_snd f z n,Bool.not_eq_true']
    constructor
    · rintro ((h | ⟨i,hi,h⟩) | h)
      · exact .inl h
      · exact .inr ⟨i,by omega,h⟩
      · exact .inr ⟨n,by omega,h⟩
    · rintro (h | ⟨i,hi,h⟩)
      · exact .inl (.inl h)
      · by_cases e:i=n
        · subst e;exact .inr h
        · exact .inl (.inr ⟨i,by omega,h⟩)
def pcV (left:List (List Bool)) (g:Lg) (i:Nat):Int × Bool:=lowN (g.1.getD i default) (left.getD i default) (0,false)
def ppV (m:Mdl) (left:List (List Bool)) (g:Lg) (i:Nat):Int × Bool:=lowN (g.2.getD i default) (prB m left i) (0,false)
def pkV (m:Mdl) (left:List (List Bool)) (i:Nat):Int × Bool:=(leastV left (m.cts.getD i default),!(decide ((m.cts.getD i default).pen=1099511627776) && decide (0<leastV left (m.cts.getD i default))))
def vsV (m:Mdl) (left:List (List Bool)) (g:Lg):Int:=sumN (fun i=>(pcV left g i).1) m.cls.length+sumN (fun i=>(ppV m left g i).1) m.prs.length+sumN (fun i=>(pkV m left i).1) m.cts.length
def nvV (m:Mdl) (left:List (List Bool)) (g:Lg):Prop:=(∃ i,i<m.cls.length∧(pcV left g i).2=false)∨(∃ i,i<m.prs.length∧(ppV m left g i).2=false)∨∃ i,i<m.cts.length∧(pkV m left i).2=false
theorem val_never {m:Mdl} {left:List (List Bool)} {g:Lg} (h:nvV m left g):valV m left g=1099511627776:=by
  unfold valV
  rw[if_pos]
  show (accV ((List.range m.cts.length).map (pkV m left)) (accV ((List.range m.prs.length).map (ppV m left g)) (accV ((List.range m.cls.length).map (pcV left g)) (0,false)))).2=true
  rw[accV_snd,accV_snd,accV_snd]
  rcases h with h | h | h
  · exact .inl (.inl (.inr h))
  · exact .inl (.inr h)
  · exact .inr h
theorem val_sum {m:Mdl} {left:List (List Bool)} {g:Lg} (h:¬ nvV m left g):valV m left g=min (vsV m left g) 1099511627776:=by
  have h1:¬ (accV ((List.range m.cts.length).map (pkV m left)) (accV ((List.range m.prs.length).map (ppV m left g)) (accV ((List.range m.cls.length).map (pcV left g)) (0,false)))).2=true:=by
    rw[accV_snd,accV_snd,accV_snd]
    rintro (((h2 | h2) | h2) | h2)
    · cases h2
    · exact h (.inl h2)
    · exact h (.inr (.inl h2))
    · exact h (.inr (.inr h2))
  have h2:(accV ((List.range m.cts.length).map (pkV m left)) (accV ((List.range m.prs.length).map (ppV m left g)) (accV ((List.range m.cls.length).map (pcV left g)) (0,false)))).1=vsV m left g:=by
    rw[accV_fst,accV_fst,accV_fst]
    unfold vsV
    dsimp only
    omega
  show (if (accV ((List.range m.cts.length).map (pkV m left)) (accV ((List.range m.prs.length).map (ppV m left g)) (accV ((List.range m.cls.length).map (pcV left g)) (0,false)))).2=true then (1099511627776:Int) else min (accV ((List.range m.cts.length).map (pkV m left)) (accV ((List.range m.prs.length).map (ppV m left g)) (accV ((List.range m.cls.length).map (pcV left g)) (0,false)))).1 1099511627776)=_
  rw[if_neg h1,h2]
theorem val_top (m:Mdl) (left:List (List Bool)) (g:Lg):valV m left g≤1099511627776:=by
  unfold valV;split<;>omega
theorem wlV_skip:∀ (l:List Ld) (c o w:Int),(∀ y∈l,¬ (y.cls=c∧y.opt=o))→wlV l c o w=w
  | [],_,_,_,_=>rfl
  | x::r,c,o,w,h=>by rw[wlV,if_neg (h x (by simp)),wlV_skip r c o w fun y hy=>h y (by simp[hy])]
theorem wlV_wt {m:Mdl}:∀ {l:List Ld} {q:Option Ld} (c o:Int),ldL m q l=true→wlV l c o 0=wtV l c o
  | [],_,_,_,_=>rfl
  | x::r,q,c,o,h=>by
    have hr:ldL m (some x) r=true:=by
      cases q<;>rw[ldL] at h<;>simp only[Bool.and_eq_true] at h<;>exact h.2
    rw[wlV,wtV]
    by_cases e:x.cls=c∧x.opt=o
    · rw[if_pos e,if_pos e]
      exact wlV_skip r c o _ fun y hy he=>by have:=ldL_gt hr y hy;omega
    · rw[if_neg e,if_neg e];exact wlV_wt c o hr
theorem sumW_sumN (l:List Ld):∀ (plan:List Int) (i:Nat),sumW l i plan=sumN (fun j=>wtV l (i+j:Nat) (plan.getD j 0)) plan.length
  | [],i=>rfl
  | o::r,i=>by
    rw[sumW,sumW_sumN l r (i+1),List.length_cons,sumN_head]
    simp only[List.getD_cons_zero,List.getD_cons_succ,Nat.add_zero]
    rw[sumN_congr (g:=fun j=>wtV l (i+(j+1):Nat) (r.getD j 0)) r.length fun j _=>by rw[show i+1+j=i+(j+1) by omega]]
theorem lowW_pos {l:List Ld} (h:∀ x∈l,1≤x.wt∧x.wt≤1000) (c:Int):∀ (row:List Bool) (o:Nat) (b:Int),0≤b→0≤lowW l c o row b∧lowW l c o row b≤b
  | [],_,b,hb=>⟨hb,Int.le_refl _⟩
  | is::r,o,b,hb=>by
    rw[lowW]
    have hw:=wlV_rg h c o 0 (by omega)
    split
    · rename_i hc
      have:=lowW_pos h c r (o+1) (wlV l c o 0) hw.1
      omega
    · exact lowW_pos h c r (o+1) b hb
theorem lowW_le {l:List Ld} (h:∀ x∈l,1≤x.wt∧x.wt≤1000) (c:Int):∀ (row:List Bool) (o:Nat) (b:Int) (i:Nat),row.getD i false=true→lowW l c o row b≤wlV l c (o+i:Nat) 0
  | [],_,b,i,hi=>by simp at hi
  | is::r,o,b,0,hi=>by
    rw[List.getD_cons_zero] at hi
    have hw:=wlV_rg h c o 0 (by omega)
    rw[lowW]
    simp only[Nat.add_zero]
    split
    · exact (lowW_pos h c r (o+1) _ hw.1).2
    · rename_i hc
      have hb:0≤b∧b≤wlV l c o 0:=by
        constructor
        · rcases Int.lt_or_le b 0 with h2 | h2
          · exact absurd ⟨hi,.inl h2⟩ hc
          · exact h2
        · rcases Int.lt_or_le (wlV l c o 0) b with h2 | h2
          · exact absurd ⟨hi,.inr h2⟩ hc
          · exact h2
      have:=lowW_pos h c r (o+1) b hb.1
      omega
  | is::r,o,b,i+1,hi=>by
    rw[List.getD_cons_succ] at hi
    rw[lowW,show o+(i+1)=o+1+i by omega]
    exact lowW_le h c r (o+1) _ i hi
theorem lowW_off (l:List Ld) (c:Int):∀ (row:List Bool) (o:Nat) (b:Int),(∀ i,row.getD i false=false)→lowW l c o row b=b
  | [],_,_,_=>rfl
  | is::r,o,b,h=>by
    have h0:=h 0
    rw[List.getD_cons_zero] at h0
    rw[lowW,if_neg (by rw[h0];simp)]
    exact lowW_off l c r (o+1) b fun i=>by have:=h (i+1);rwa [List.getD_cons_succ] at this
theorem lowW_one (l:List Ld) (c:Int):∀ (row:List Bool) (o:Nat) (i:Nat),(∀ j,row.getD j false=decide (j=i))→lowW l c o row (-1)=wlV l c (o+i:Nat) 0
  | [],_,i,h=>by have:=h i;simp at this
  | is::r,o,0,h=>by
    have h0:=h 0
    rw[List.getD_cons_zero,decide_eq_true rfl] at h0
    rw[lowW,if_pos ⟨h0,.inl (by decide)⟩,Nat.add_zero]
    exact lowW_off l c r (o+1) _ fun j=>by have:=h (j+1);rw[List.getD_cons_succ] at this;rw[this];simp
  | is::r,o,i+1,h=>by
    have h0:=h 0
    rw[List.getD_cons_zero,decide_eq_false (by omega)] at h0
    rw[lowW,if_neg (by rw[h0];simp),show o+(i+1)=o+1+i by omega]
    exact lowW_one l c r (o+1) i fun j=>by have:=h (j+1);rw[List.getD_cons_succ] at this;rw[this];simp
end T
open Go Go.Am
namespace T
theorem sumN_mem {f:Nat→Int}:∀ (n:Nat),(∀ i<n,0≤f i)→0≤sumN f n∧∀ i<n,f i≤sumN f n
  | 0,_=>⟨Int.le_refl _,fun i h=>by omega⟩
  | n+1,h=>by
    have h1:=sumN_mem n fun i hi=>h i (by omega)
    have h2:=h n (by omega)
    rw[sumN]
    refine⟨by omega,fun i hi=>?_⟩
    by_cases e:i=n
    · subst e;omega
    · have:=h1.2 i (by omega);omega
theorem sumN_le {f g:Nat→Int}:∀ (n:Nat),(∀ i<n,f i≤g i)→sumN f n≤sumN g n
  | 0,_=>Int.le_refl _
  | n+1,h=>by
    have:=sumN_le n fun i hi=>h i (by omega)
    have:=h n (by omega)
    rw[sumN,sumN];omega
theorem ownP_in {m:Mdl} {plan:List Int} (hm:VM m) (hp:FP m plan) {i:Nat} (hi:i<m.cls.length):In41 (ownP m plan i):=by
  have h:=fp_get hp hi
  have hl:=getD_mem (l:=m.cls) (i:=i) (d:=default) hi
  exact ownS_in (hm.chs _ hl _ (getD_mem (l:=m.cls.getD i default) (i:=(plan.getD i 0).toNat) (d:=default) (by omega)))
theorem sg0 {m:Mdl} {plan:List Int} (hp:FP m plan) {i:Nat} (hi:i<m.cls.length):sgP plan (S0 m,T0 m) i=ofN (ownP m plan i):=by
  have h:=fp_get hp hi
  unfold sgP S0
  dsimp only
  rw[map_getD _ _ _ hi]
  unfold firstV ownV
  rw[List.map_map,map_getD _ _ _ (by omega)]
  rfl
theorem ix_lt {m:Mdl} {plan:List Int} (hm:VM m) (hp:FP m plan) {p:Pr} (hpb:pairB m p=true):ixP m plan p<p.tab.length:=by
  obtain ⟨q1,q2,q3,q4,q5⟩:=pairB_iff hpb
  have ha:=fp_get hp (j:=p.fst.toNat) (by omega)
  have hb:=fp_get hp (j:=p.snd.toNat) (by omega)
  have hl1:=hm.opt _ (getD_mem (l:=m.cls) (i:=p.fst.toNat) (d:=default) (by omega))
  have hl2:=hm.opt _ (getD_mem (l:=m.cls) (i:=p.snd.toNat) (d:=default) (by omega))
  have hix:=entry_idx ha hb (by omega) (by omega)
  unfold ixP
  omega
theorem tg0 {m:Mdl} {plan:List Int} (hm:VM m) (hp:FP m plan) {i:Nat} (hi:i<m.prs.length):tgP m plan (S0 m,T0 m) i=ofN (entP m plan (m.prs.getD i default)):=by
  have hpb:=prsL_mem hm.pr _ (getD_mem (l:=m.prs) (i:=i) (d:=default) hi)
  have hix:=ix_lt hm hp hpb
  unfold tgP T0
  dsimp only
  rw[map_getD _ _ _ hi]
  unfold firstV
  rw[map_getD _ _ _ hix]
  unfold entP entryV ixP
  rfl
theorem prB_get {m:Mdl} {left:List (List Bool)} (hm:VM m) (hf:FitsP m left) {i:Nat} (hi:i<m.prs.length) {x y:Int}
    (hx:0≤x∧x<(m.cls.getD (m.prs.getD i default).fst.toNat default).length) (hy:0≤y∧y<(m.cls.getD (m.prs.getD i default).snd.toNat default).length) :
    (prB m left i).getD (x * (m.cls.getD (m.prs.getD i default).snd.toNat default).length+y).toNat false=((left.getD (m.prs.getD i default).fst.toNat default).getD x.toNat false && (left.getD (m.prs.getD i default).snd.toNat default).getD y.toNat false):=by
  have hpb:=prsL_mem hm.pr _ (getD_mem (l:=m.prs) (i:=i) (d:=default) hi)
  unfold prB
  generalize m.prs.getD i default=p at *
  obtain ⟨q1,q2,q3,q4,q5⟩:=pairB_iff hpb
  have hl1:=hm.opt _ (getD_mem (l:=m.cls) (i:=p.fst.toNat) (d:=default) (by omega))
  have hl2:=hm.opt _ (getD_mem (l:=m.cls) (i:=p.snd.toNat) (d:=default) (by omega))
  have hix:=entry_idx hx hy (by omega) (by omega)
  have f1:=hf.2 p.fst.toNat (by have:=hf.1;omega)
  have f2:=hf.2 p.snd.toNat (by have:=hf.1;omega)
  rw[← f1] at hx hix
  rw[← f2] at hy hix ⊢
  generalize left.getD p.fst.toNat default=a at *
  generalize left.getD p.snd.toNat default=b at *
  obtain ⟨x,rfl⟩:=Int.eq_ofNat_of_zero_le hx.1
  obtain ⟨y,rfl⟩:=Int.eq_ofNat_of_zero_le hy.1
  have e:((x:Int) * b.length+y).toNat=x * b.length+y:=by
    rw[show ((x:Int) * b.length+y)=((x * b.length+y:Nat):Int) by simp,Int.toNat_natCast]
  have e2:x * b.length+y<a.length * b.length:=by
    have:=hix.2.2
    rw[show ((x:Int) * b.length+y)=((x * b.length+y:Nat):Int) by simp,show (a.length:Int) * b.length=((a.length * b.length:Nat):Int) by simp] at this
    omega
  have hy2:y<b.length:=by omega
  rw[e,bothV_get _ _ _ e2,Int.toNat_natCast,Int.toNat_natCast,Nat.mul_comm x,Nat.mul_add_div (by omega),Nat.div_eq_of_lt hy2,Nat.mul_add_mod,Nat.mod_eq_of_lt hy2,Nat.add_zero]
theorem loads_sum {m:Mdl} {plan:List Int} (hp:FP m plan) {c:Ct} (hc:ctB m c=true):loadS plan c.loads 0=sumN (fun j=>wlV c.loads (j:Nat) (plan.getD j 0) 0) m.cls.length:=by
  obtain ⟨_,_,_,q4⟩:=ctB_iff hc
  rw[loadS_sumW hp.len 0 q4,sumW_sumN,Int.zero_add,hp.len]
  exact sumN_congr _ fun j _=>by rw[Nat.zero_add,wlV_wt _ _ q4]
def InP (m:Mdl) (left:List (List Bool)) (plan:List Int):Prop:=∀ i,i<m.cls.length→(left.getD i default).getD (plan.getD i 0).toNat false=true
def OneP (m:Mdl) (left:List (List Bool)) (plan:List Int):Prop:=∀ i,i<m.cls.length→∀ j,(left.getD i default).getD j false=decide (j=(plan.getD i 0).toNat)
theorem least_le {m:Mdl} {plan:List Int} {left:List (List Bool)} (hm:VM m) (hp:FP m plan) (hf:FitsP m left) (hin:InP m left plan) {c:Ct} (hc:ctB m c=true):leastV left c≤excP plan c:=by
  obtain ⟨_,_,q3,q4⟩:=ctB_iff hc
  have hw:∀ x∈c.loads,1≤x.wt∧x.wt≤1000:=fun x hx=>(ldL_mem q4 x hx).2
  refine excV_le (price_in q3).1 ?_
  rw[lowS_eq,loads_sum hp hc,Int.zero_add,hf.1]
  refine sumN_le _ fun j hj=>?_
  have hg:=fp_get hp hj
  have h1:=lowW_le hw (j:Nat) (left.getD j []) 0 (-1) (plan.getD j 0).toNat (hin j hj)
  have h2:=wlV_rg hw (j:Nat) (plan.getD j 0) 0 (by omega)
  rw[Nat.zero_add,Int.toNat_of_nonneg hg.1] at h1
  unfold lowC
  rw[Nat.zero_add]
  omega
theorem least_eq {m:Mdl} {plan:List Int} {left:List (List Bool)} (hm:VM m) (hp:FP m plan) (hf:FitsP m left) (hin:OneP m left plan) {c:Ct} (hc:ctB m c=true):leastV left c=excP plan c:=by
  obtain ⟨_,_,q3,q4⟩:=ctB_iff hc
  have hw:∀ x∈c.loads,1≤x.wt∧x.wt≤1000:=fun x hx=>(ldL_mem q4 x hx).2
  unfold leastV excP
  congr 1
  rw[lowS_eq,loads_sum hp hc,Int.zero_add,hf.1]
  refine sumN_congr _ fun j hj=>?_
  have hg:=fp_get hp hj
  have h1:=lowW_one c.loads (j:Nat) (left.getD j []) 0 (plan.getD j 0).toNat (hin j hj)
  have h2:=wlV_rg hw (j:Nat) (plan.getD j 0) 0 (by omega)
  rw[Nat.zero_add,Int.toNat_of_nonneg hg.1] at h1
  unfold lowC
  rw[Nat.zero_add,h1]
  omega
theorem excP_in {m:Mdl} {plan:List Int} {c:Ct} (hc:ctB m c=true):In41 (excP plan c):=excV_in (price_in (ctB_iff hc).2.2.1)
theorem exc_forb {most s:Int} (h:0<excV most 1099511627776 s):excV most 1099511627776 s=1099511627776:=by
  unfold excV at *
  split at h
  · omega
  · rename_i h2;rw[if_neg h2];omega
theorem entP_in {m:Mdl} {plan:List Int} {p:Pr} (h:pairB m p=true):In41 (entP m plan p):=entry_in h _ _
structure Parts (m:Mdl) (plan:List Int) (left:List (List Bool)) (g:Lg):Prop where
  tot:totalL (rulesV m plan) 0=min (sumN (ownP m plan) m.cls.length+sumN (fun i=>entP m plan (m.prs.getD i default)) m.prs.length+sumN (fun i=>excP plan (m.cts.getD i default)) m.cts.length) 1099511627776
  ps:psP m plan g=sumN (ownP m plan) m.cls.length+sumN (fun i=>entP m plan (m.prs.getD i default)) m.prs.length
  sf:∀ i,i<m.cls.length→(sgP plan g i).2=decide (1099511627776≤ownP m plan i)
  tf:∀ i,i<m.prs.length→(tgP m plan g i).2=decide (1099511627776≤entP m plan (m.prs.getD i default))
  sl:∀ i,i<m.cls.length→(plan.getD i 0).toNat<(g.1.getD i default).length
  tl:∀ i,i<m.prs.length→ixP m plan (m.prs.getD i default)<(g.2.getD i default).length
  a:0≤sumN (ownP m plan) m.cls.length∧∀ i<m.cls.length,ownP m plan i≤sumN (ownP m plan) m.cls.length
  b:0≤sumN (fun i=>entP m plan (m.prs.getD i default)) m.prs.length∧∀ i<m.prs.length,entP m plan (m.prs.getD i default)≤sumN (fun i=>entP m plan (m.prs.getD i default)) m.prs.length
  c:0≤sumN (fun i=>excP plan (m.cts.getD i default)) m.cts.length∧∀ i<m.cts.length,excP plan (m.cts.getD i default)≤sumN (fun i=>excP plan (m.cts.getD i default)) m.cts.length
theorem parts {m:Mdl} {plan:List Int} (hm:VM m) (hp:FP m plan) (left:List (List Bool)) (l:List Mv) (hl:∀ x∈l,mvB m x=true):Parts m plan left (mvsL m l (S0 m,T0 m)):=by
  have hps:=mvsL_ps hm hp l _ _ (by decide) (open_lg hm) hl
  have hlg:=mvsL_lg hm l hl
  refine⟨total_sum hm hp,?_,fun i hi=>?_,fun i hi=>?_,fun i hi=>?_,fun i hi=>?_,sumN_mem _ fun i hi=>(ownP_in hm hp hi).1,sumN_mem _ fun i hi=>(entP_in (prsL_mem hm.pr _ (getD_mem hi))).1,sumN_mem _ fun i hi=>(excP_in (hm.ct _ (getD_mem hi))).1⟩
  · rw[hps.1]
    unfold psP
    rw[sumN_congr m.cls.length fun i hi=>by rw[sg0 hp hi],sumN_congr m.prs.length fun i hi=>by rw[tg0 hm hp hi]]
    rfl
  · rw[hps.2.1,sg0 hp hi];rfl
  · rw[hps.2.2,tg0 hm hp hi];rfl
  · have:=fp_get hp hi
    rw[hlg.sl i hi];omega
  · rw[hlg.tl i hi];exact ix_lt hm hp (prsL_mem hm.pr _ (getD_mem hi))
theorem prB_in {m:Mdl} {plan:List Int} {left:List (List Bool)} (hm:VM m) (hp:FP m plan) (hf:FitsP m left) (hin:InP m left plan) {i:Nat} (hi:i<m.prs.length):(prB m left i).getD (ixP m plan (m.prs.getD i default)) false=true:=by
  have hpb:=prsL_mem hm.pr _ (getD_mem (l:=m.prs) (i:=i) (d:=default) hi)
  obtain ⟨q1,q2,q3,q4,q5⟩:=pairB_iff hpb
  unfold ixP
  rw[prB_get hm hf hi (fp_get hp (by omega)) (fp_get hp (by omega)),hin _ (by omega),hin _ (by omega)]
  rfl
theorem prB_one {m:Mdl} {plan:List Int} {left:List (List Bool)} (hm:VM m) (hp:FP m plan) (hf:FitsP m left) (hone:OneP m left plan) {i:Nat} (hi:i<m.prs.length) (j:Nat):(prB m left i).getD j false=decide (j=ixP m plan (m.prs.getD i default)):=by
  have hpb:=prsL_mem hm.pr _ (getD_mem (l:=m.prs) (i:=i) (d:=default) hi)
  obtain ⟨q1,q2,q3,q4,q5⟩:=pairB_iff hpb
  have g1:=fp_get hp (j:=(m.prs.getD i default).fst.toNat) (by omega)
  have g2:=fp_get hp (j:=(m.prs.getD i default).snd.toNat) (by omega)
  have o1:=hone (m.prs.getD i default).fst.toNat (by omega)
  have o2:=hone (m.prs.getD i default).snd.toNat (by omega)
  have f1:=hf.2 (m.prs.getD i default).fst.toNat (by have:=hf.1;omega)
  have f2:=hf.2 (m.prs.getD i default).snd.toNat (by have:=hf.1;omega)
  unfold prB ixP
  generalize m.prs.getD i default=p at *
  rw[← f1] at g1
  rw[← f2] at g2 ⊢
  generalize left.getD p.fst.toNat default=a at *
  generalize left.getD p.snd.toNat default=b at *
  generalize plan.getD p.fst.toNat 0=x at *
  generalize plan.getD p.snd.toNat 0=y at *
  obtain ⟨x,rfl⟩:=Int.eq_ofNat_of_zero_le g1.1
  obtain ⟨y,rfl⟩:=Int.eq_ofNat_of_zero_le g2.1
  simp only[Int.toNat_natCast] at o1 o2
  have hx:x<a.length:=by omega
  have hy:y<b.length:=by omega
  have e:((x:Int) * b.length+y).toNat=x * b.length+y:=by
    rw[show ((x:Int) * b.length+y)=((x * b.length+y:Nat):Int) by simp,Int.toNat_natCast]
  rw[e]
  by_cases hj:j<a.length * b.length
  · rw[bothV_get _ _ _ hj,o1,o2,← Bool.decide_and]
    have hdm:=Nat.div_add_mod j b.length
    have hml:=Nat.mod_lt j (show 0<b.length by omega)
    refine decide_eq_decide.2 ⟨fun ⟨h1,h2⟩=>?_,fun h=>?_⟩
    · rw[h1,h2,Nat.mul_comm] at hdm;exact hdm.symm
    · rw[h,Nat.mul_comm x,Nat.mul_add_div (by omega),Nat.div_eq_of_lt hy,Nat.mul_add_mod,Nat.mod_eq_of_lt hy]
      exact⟨rfl,rfl⟩
  · rw[List.getD_eq_getElem?_getD,List.getElem?_eq_none (by rw[bothV_len];omega),Option.getD_none,decide_eq_false]
    intro h
    have h3:(x+1) * b.length≤a.length * b.length:=Nat.mul_le_mul_right _ hx
    rw[Nat.add_mul,Nat.one_mul] at h3
    omega
theorem bound_law {m:Mdl} {plan:List Int} (hm:VM m) (hp:FP m plan) (left:List (List Bool)) (hf:FitsP m left) (hin:InP m left plan) (l:List Mv) (hl:∀ x∈l,mvB m x=true) :
    valV m left (mvsL m l (S0 m,T0 m))≤totalL (rulesV m plan) 0:=by
  have P:=parts hm hp left l hl
  generalize mvsL m l (S0 m,T0 m)=g at *
  rw[P.tot]
  have ha:=P.a
  have hb:=P.b
  have hc:=P.c
  have hps:=P.ps
  have htop:=val_top m left g
  by_cases hF:1099511627776≤sumN (ownP m plan) m.cls.length+sumN (fun i=>entP m plan (m.prs.getD i default)) m.prs.length+sumN (fun i=>excP plan (m.cts.getD i default)) m.cts.length
  · omega
  have e1:∀ i,i<m.cls.length→(pcV left g i).2=true∧(pcV left g i).1≤(sgP plan g i).1:=fun i hi=>by
    have:=ha.2 i hi
    exact lowN_le _ _ _ _ (P.sl i hi) (hin i hi) (by show (sgP plan g i).2=false;rw[P.sf i hi,decide_eq_false (by omega)])
  have e2:∀ i,i<m.prs.length→(ppV m left g i).2=true∧(ppV m left g i).1≤(tgP m plan g i).1:=fun i hi=>by
    have:=hb.2 i hi
    exact lowN_le _ _ _ _ (P.tl i hi) (prB_in hm hp hf hin hi) (by show (tgP m plan g i).2=false;rw[P.tf i hi,decide_eq_false (by omega)])
  have e3:∀ i,i<m.cts.length→(pkV m left i).2=true∧(pkV m left i).1≤excP plan (m.cts.getD i default):=fun i hi=>by
    have h1:=hc.2 i hi
    have hct:=hm.ct _ (getD_mem (l:=m.cts) (i:=i) (d:=default) hi)
    have h2:=least_le hm hp hf hin hct
    refine⟨?_,h2⟩
    unfold pkV
    dsimp only
    cases hz:(decide ((m.cts.getD i default).pen=1099511627776) && decide (0<leastV left (m.cts.getD i default))) with
    | false=>rfl
    | true =>
      exfalso
      rw[Bool.and_eq_true,decide_eq_true_eq,decide_eq_true_eq] at hz
      have h3:excP plan (m.cts.getD i default)=1099511627776:=by
        unfold excP at h2 ⊢
        rw[hz.1] at h2 ⊢
        exact exc_forb (by omega)
      omega
  rw[val_sum]
  · have s1:=sumN_le m.cls.length fun i hi=>(e1 i hi).2
    have s2:=sumN_le m.prs.length fun i hi=>(e2 i hi).2
    have s3:=sumN_le m.cts.length fun i hi=>(e3 i hi).2
    unfold vsV
    unfold psP at hps
    omega
  · rintro (⟨i,hi,h⟩ | ⟨i,hi,h⟩ | ⟨i,hi,h⟩)
    · rw[(e1 i hi).1] at h;cases h
    · rw[(e2 i hi).1] at h;cases h
    · rw[(e3 i hi).1] at h;cases h
theorem exact_law {m:Mdl} {plan:List Int} (hm:VM m) (hp:FP m plan) (left:List (List Bool)) (hf:FitsP m left) (hone:OneP m left plan) (l:List Mv) (hl:∀ x∈l,mvB m x=true) :
    valV m left (mvsL m l (S0 m,T0 m))=totalL (rulesV m plan) 0:=by
  have P:=parts hm hp left l hl
  generalize mvsL m l (S0 m,T0 m)=g at *
  rw[P.tot]
  have ha:=P.a
  have hb:=P.b
  have hc:=P.c
  have hps:=P.ps
  have e1:∀ i,i<m.cls.length→pcV left g i=if (sgP plan g i).2=false then ((sgP plan g i).1,true) else (0,false):=fun i hi =>
    lowN_one _ _ _ _ (P.sl i hi) (hone i hi) rfl
  have e2:∀ i,i<m.prs.length→ppV m left g i=if (tgP m plan g i).2=false then ((tgP m plan g i).1,true) else (0,false):=fun i hi =>
    lowN_one _ _ _ _ (P.tl i hi) (prB_one hm hp hf hone hi) rfl
  have e3:∀ i,i<m.cts.length→leastV left (m.cts.getD i default)=excP plan (m.cts.getD i default):=fun i hi =>
    least_eq hm hp hf hone (hm.ct _ (getD_mem hi))
  by_cases hN:nvV m left g
  · rw[val_never hN]
    rcases hN with ⟨i,hi,h⟩ | ⟨i,hi,h⟩ | ⟨i,hi,h⟩
    · rw[e1 i hi,P.sf i hi] at h
      have:=ha.2 i hi
      by_cases hx:1099511627776≤ownP m plan i
      · omega
      · rw[decide_eq_false hx,if_pos rfl] at h;cases h
    · rw[e2 i hi,P.tf i hi] at h
      have:=hb.2 i hi
      by_cases hx:1099511627776≤entP m plan (m.prs.getD i default)
      · omega
      · rw[decide_eq_false hx,if_pos rfl] at h;cases h
    · have h1:=hc.2 i hi
      unfold pkV at h
      dsimp only at h
      rw[e3 i hi,Bool.not_eq_false',Bool.and_eq_true,decide_eq_true_eq,decide_eq_true_eq] at h
      have h3:excP plan (m.cts.getD i default)=1099511627776:=by
        obtain ⟨h4,h5⟩:=h
        unfold excP at h5 ⊢
        rw[h4] at h5 ⊢
        exact exc_forb h5
      omega
  · rw[val_sum hN]
    congr 1
    rw[← hps]
    unfold vsV psP
    congr 1
    · congr 1
      · refine sumN_congr _ fun i hi=>?_
        rw[e1 i hi]
        split
        · rfl
        · rename_i h
          exact absurd (.inl ⟨i,hi,by rw[e1 i hi,if_neg h]⟩) hN
      · refine sumN_congr _ fun i hi=>?_
        rw[e2 i hi]
        split
        · rfl
        · rename_i h
          exact absurd (.inr (.inl ⟨i,hi,by rw[e2 i hi,if_neg h]⟩)) hN
    · exact sumN_congr _ fun i hi=>e3 i hi
end T
open Go Go.Am
namespace T
end T

