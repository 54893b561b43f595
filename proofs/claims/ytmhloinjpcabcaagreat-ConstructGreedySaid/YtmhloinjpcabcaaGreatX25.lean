import Derived.Test.YtmhloinjpcabcaaGreatX22
import Derived.Test.YtmhloinjpcabcaaGreatX24
import Derived.Test.YtmhloinjpcabcaaGreatX23
set_option linter.unusedVariables false
set_option linter.unusedSimpArgs false
set_option linter.unnecessarySimpa false
set_option linter.unusedSectionVars false
set_option maxHeartbeats 64000000
set_option maxRecDepth 20000
open Go Go.Am
namespace T
def S0 (m:Mdl):List (List Nm):=m.cls.map fun l=>firstV (ownV l)
def T0 (m:Mdl):List (List Nm):=m.prs.map fun p=>firstV p.tab
def addR (r:List Nm) (i:Nat) (a:Int):List Nm:=r.set i ((r.getD i default).1+a,(r.getD i default).2)
def subK (f:Nat→Nat) (a:Int):Nat→List Nm→List Nm
  | 0,t=>t
  | k+1,t=>addR (subK f a k t) (f k) (-a)
abbrev Lg:=List (List Nm) × List (List Nm)
def mvF (m:Mdl) (x:Mv):(Nat→Nat) × Nat :=
  if x.side=0 then (fun k=>(x.opt * (m.cls.getD (m.prs.getD x.pair.toNat default).snd.toNat default).length+k).toNat,(m.cls.getD (m.prs.getD x.pair.toNat default).snd.toNat default).length)
  else (fun k=>((k:Int) * (m.cls.getD (m.prs.getD x.pair.toNat default).snd.toNat default).length+x.opt).toNat,(m.cls.getD (m.prs.getD x.pair.toNat default).fst.toNat default).length)
def mvS (m:Mdl) (x:Mv) (g:Lg):Lg :=
  (g.1.set (mvC m x).toNat (addR (g.1.getD (mvC m x).toNat default) x.opt.toNat x.amt),g.2.set x.pair.toNat (subK (mvF m x).1 x.amt (mvF m x).2 (g.2.getD x.pair.toNat default)))
def mvsL (m:Mdl) (l:List Mv) (g:Lg):Lg:=l.foldl (fun g x=>mvS m x g) g
def NB (B:Int) (r:List Nm):Prop:=∀ p∈r,-B≤p.1∧p.1≤B
theorem NB.get {B:Int} {r:List Nm} (h:NB B r) (hB:0≤B) (i:Nat) : -B≤(r.getD i default).1∧(r.getD i default).1≤B:=by
  rcases Nat.lt_or_ge i r.length with hi | hi
  · exact h _ (getD_mem hi)
  · rw[List.getD_eq_getElem?_getD,List.getElem?_eq_none hi]
    show -B≤(0:Int)∧(0:Int)≤B
    omega
theorem NB.mono {B C:Int} {r:List Nm} (h:NB B r) (hc:B≤C):NB C r:=fun p hp=>by have:=h p hp;omega
theorem NB.add {B:Int} {r:List Nm} (h:NB B r) (hB:0≤B) (i:Nat) {a:Int} (ha : -268435456≤a∧a≤268435456):NB (B+268435456) (addR r i a):=fun p hp=>by
  rcases List.mem_or_eq_of_mem_set hp with h' | h'
  · have:=h p h';omega
  · have:=h.get hB i
    rw[h'];dsimp only;omega
theorem addR_len (r:List Nm) (i:Nat) (a:Int):(addR r i a).length=r.length:=by simp[addR]
theorem subK_len (f:Nat→Nat) (a:Int):∀ (k:Nat) (t:List Nm),(subK f a k t).length=t.length
  | 0,t=>rfl
  | k+1,t=>by rw[subK,addR_len,subK_len f a k t]
theorem NB.sub {B:Int} {r:List Nm} (h:NB B r) (hB:0≤B) (f:Nat→Nat) {a:Int} (ha : -268435456≤a∧a≤268435456):∀ k:Nat,NB (B+268435456 * k) (subK f a k r)
  | 0=>by simpa [subK] using h
  | k+1=>by
    rw[subK]
    have:=(NB.sub h hB f ha k).add (by omega) (f k) (a:=-a) (by omega)
    exact this.mono (by omega)
structure LG (m:Mdl) (B:Int) (g:Lg):Prop where
  s:g.1.length=m.cls.length
  t:g.2.length=m.prs.length
  sl:∀ i,i<m.cls.length→(g.1.getD i default).length=(m.cls.getD i default).length
  tl:∀ i,i<m.prs.length→(g.2.getD i default).length=(m.prs.getD i default).tab.length
  sb:∀ r∈g.1,NB B r
  tb:∀ r∈g.2,NB B r
theorem getD_set_len {g:List (List Nm)} {i j:Nat} {r:List Nm} (h:r.length=(g.getD i default).length):((g.set i r).getD j default).length=(g.getD j default).length:=by
  by_cases e:i=j
  · subst e
    rcases Nat.lt_or_ge i g.length with hi | hi
    · simp only[List.getD_eq_getElem?_getD,List.getElem?_set,hi,if_true,Option.getD_some];rw[h,List.getD_eq_getElem?_getD]
    · rw[List.set_eq_of_length_le hi]
  · simp only[List.getD_eq_getElem?_getD,List.getElem?_set_ne e]
theorem NB_getD {B:Int} {g:List (List Nm)} (h:∀ r∈g,NB B r) (i:Nat):NB B (g.getD i default):=by
  rcases Nat.lt_or_ge i g.length with hi | hi
  · exact h _ (getD_mem hi)
  · rw[List.getD_eq_getElem?_getD,List.getElem?_eq_none hi];intro p hp;cases hp
theorem mvF_len {m:Mdl} (hm:VM m) (x:Mv):(mvF m x).2≤24:=by
  have:∀ i,(m.cls.getD i default).length≤24:=fun i=>by
    rcases Nat.lt_or_ge i m.cls.length with hi | hi
    · exact hm.opt _ (getD_mem hi)
    · rw[List.getD_eq_getElem?_getD,List.getElem?_eq_none hi];exact Nat.zero_le _
  unfold mvF
  split<;>exact this _
theorem mvS_lg {m:Mdl} (hm:VM m) {B:Int} (hB:0≤B) {g:Lg} (h:LG m B g) {x:Mv} (hx:mvB m x=true):LG m (B+268435456 * 25) (mvS m x g):=by
  unfold mvB at hx
  rw[Bool.and_eq_true,decide_eq_true_eq] at hx
  have ha:=hx.1.2.2.2.2
  have hk:=mvF_len hm x
  refine⟨by rw[mvS,List.length_set];exact h.s,by rw[mvS,List.length_set];exact h.t,fun i hi=>?_,fun i hi=>?_,fun r hr=>?_,fun r hr=>?_⟩
  · rw[mvS];dsimp only
    rw[getD_set_len (by rw[addR_len])];exact h.sl i hi
  · rw[mvS];dsimp only
    rw[getD_set_len (by rw[subK_len])];exact h.tl i hi
  · rcases List.mem_or_eq_of_mem_set hr with h' | h'
    · exact (h.sb r h').mono (by omega)
    · rw[h'];exact ((NB_getD h.sb _).add hB _ ha).mono (by omega)
  · rcases List.mem_or_eq_of_mem_set hr with h' | h'
    · exact (h.tb r h').mono (by omega)
    · rw[h'];exact ((NB_getD h.tb _).sub hB _ ha _).mono (by omega)
theorem firstV_nb {l:List Int} (h:∀ x∈l,In41 x):NB 1099511627776 (firstV l):=fun p hp=>by
  obtain ⟨x,hx,rfl⟩:=List.mem_map.1 hp
  have:=h x hx
  unfold In41 at this
  show -1099511627776≤x∧x≤1099511627776
  omega
theorem tab_in {m:Mdl} {p:Pr} (hp:pairB m p=true):∀ x∈p.tab,In41 x:=fun x hx=>by
  unfold pairB at hp
  simp only[Bool.and_eq_true,Bool.not_eq_true',List.any_eq_false] at hp
  have:=hp.2 _ hx
  rw[badN] at this
  simp only[Bool.and_eq_true,Bool.not_eq_true',decide_eq_true_eq,not_and,Bool.not_eq_false] at this
  by_cases hz:x=0
  · subst hz;unfold In41;decide
  · exact price_in (this hz)
theorem map_getD {α β:Type} [Inhabited α] [Inhabited β] (f:α→β) (l:List α) (i:Nat) (h:i<l.length):(l.map f).getD i default=f (l.getD i default):=by
  rw[List.getD_eq_getElem?_getD,List.getElem?_map,List.getD_eq_getElem?_getD,List.getElem?_eq_getElem h];rfl
theorem open_lg {m:Mdl} (hm:VM m):LG m 1099511627776 (S0 m,T0 m):=by
  refine⟨by simp[S0],by simp[T0],fun i hi=>?_,fun i hi=>?_,fun r hr=>?_,fun r hr=>?_⟩
  · show ((S0 m).getD i default).length=_
    rw[S0,map_getD _ _ _ hi];simp[firstV,ownV]
  · show ((T0 m).getD i default).length=_
    rw[T0,map_getD _ _ _ hi];simp[firstV]
  · obtain ⟨l,hl,rfl⟩:=List.mem_map.1 hr
    refine firstV_nb fun x hx=>?_
    obtain ⟨o,ho,rfl⟩:=List.mem_map.1 hx
    exact ownS_in (hm.chs l hl o ho)
  · obtain ⟨p,hp,rfl⟩:=List.mem_map.1 hr
    exact firstV_nb (tab_in (prsL_mem hm.pr p hp))
theorem mvsL_lg {m:Mdl} (hm:VM m) (l:List Mv) (hl:∀ x∈l,mvB m x=true):LG m (1099511627776+268435456 * 25 * l.length) (mvsL m l (S0 m,T0 m)):=by
  have key:∀ (l:List Mv) (B:Int) (g:Lg),0≤B→(∀ x∈l,mvB m x=true)→LG m B g→LG m (B+268435456 * 25 * l.length) (mvsL m l g):=by
    intro l
    induction l with
    | nil=>intro B g _ _ h;simpa [mvsL] using h
    | cons x r ih =>
      intro B g hB hx h
      have h1:=mvS_lg hm hB h (hx x (by simp))
      have h2:=ih _ _ (by omega) (fun y hy=>hx y (by simp[hy])) h1
      show LG m _ (mvsL m r (mvS m x g))
      have e:B+268435456 * 25+268435456 * 25 * (r.length:Int)=B+268435456 * 25 * ((x::r).length:Int):=by simp only[List.length_cons];omega
      rw[e] at h2;exact h2
  exact key l _ _ (by decide) hl (open_lg hm)
theorem LO.keep {α:Type} {enc:α→List AV} {B:List (Nat × Ob)} {D E:List (Nat × Nat)} {S T:List (List α)} {os ob:List Ob} (h:LO enc B D E S T os) (k:Keep os ob):LO enc B D E S T ob :=
  ⟨fun b hb=>⟨k _ _ (h.base b hb).1,(h.base b hb).2⟩,⟨h.rD.len,fun j hj=>⟨k _ _ (h.rD.row j hj).1,(h.rD.row j hj).2⟩⟩,⟨h.rE.len,fun j hj=>⟨k _ _ (h.rE.row j hj).1,(h.rE.row j hj).2⟩⟩,h.nd⟩
theorem Keep.trans {a b c:List Ob} (h:Keep a b) (k:Keep b c):Keep a c:=fun i o hi=>k i o (h i o hi)
structure Sat (R:Int) (out:List Int) (v:Int):Prop where
  ok:OutOK R out
  v0:0≤v
  eq:min (sumL out) 1099511627776=min v 1099511627776
theorem sumL_upd:∀ (l:List Int) (i:Nat) (x:Int),i<l.length→sumL (l.set i x)=sumL l - l.getD i 0+x
  | [],i,x,h=>by simp at h
  | y::r,0,x,_=>by simp only[List.set_cons_zero,sumL,List.getD_cons_zero];omega
  | y::r,i+1,x,h=>by
    have:=sumL_upd r i x (by simpa using h)
    simp only[List.set_cons_succ,sumL,List.getD_cons_succ];omega
theorem Sat.add {R:Int} {out:List Int} {v r d:Int} (h:Sat R out v) (hr:0≤r∧r<R) (hd:In41 d):Sat R (addAt out r d) (v+d):=by
  have hlen:=h.ok.1
  have hi:r.toNat<out.length:=by omega
  have hs:=sumL_mem h.ok.2 _ (getD_mem (d:=(0:Int)) hi)
  have hset:=sumL_upd out r.toNat (addC (out.getD r.toNat 0) d) hi
  have hg:=h.ok.get r.toNat
  have he:=h.eq
  have hv:=h.v0
  unfold In41 at hg
  have hd2:=hd
  unfold In41 at hd2
  refine⟨h.ok.add hd,by omega,?_⟩
  unfold addAt
  rw[hset]
  unfold addC
  omega
theorem Sat.le {R:Int} {out:List Int} {v w:Int} (h:Sat R out v) (hw:0≤w) (e:min v 1099511627776=min w 1099511627776):Sat R out w:=⟨h.ok,hw,h.eq.trans e⟩
theorem sat_ch {R:Int}:∀ (l:List (Int × Int)) (out:List Int) (v n:Int),(∀ c∈l,ruleB R c.1=true∧priceB c.2=true)→0≤v→In41 n→Sat R out (v+n)→Sat R (chargesL l out) (v+(l.map (·.2)).foldl addC n)
  | [],out,v,n,_,_,_,h=>h
  | c::r,out,v,n,hc,hv,hn0,h=>by
    rw[chargesL]
    have h1:=hc c (by simp)
    have hr:=h1.1
    rw[ruleB,decide_eq_true_eq] at hr
    have hp:=price_in h1.2
    have h2:=h.add hr hp
    refine sat_ch r _ v (addC n c.2) (fun x hx=>hc x (by simp[hx])) hv (addC_in hn0 hp) (h2.le ?_ ?_)
    · have:=addC_in hn0 hp;unfold In41 at this;omega
    · unfold In41 at hp hn0;unfold addC;omega
theorem sat_plan {m:Mdl} (hm:VM m):∀ (plan:List Int) (i:Nat) (out:List Int) (v:Int),(∀ j,j<plan.length→optB m ((i+j:Nat):Int) (plan.getD j 0)=true) →
    Sat m.rules out v→Sat m.rules (planC m i plan out) (v+sumN (fun j=>ownS ((m.cls.getD (i+j) default).getD (plan.getD j 0).toNat default)) plan.length)
  | [],i,out,v,_,h=>by show Sat m.rules out (v+0);rw[Int.add_zero];exact h
  | o::r,i,out,v,hg,h=>by
    rw[planC]
    have h0:=hg 0 (by simp)
    rw[List.getD_cons_zero,Nat.add_zero] at h0
    obtain ⟨b1,b2,b3,b4⟩:=optB_iff.1 h0
    rw[Int.toNat_natCast] at b4
    rw[if_neg (by omega)]
    have hl:=getD_mem (l:=m.cls) (i:=i) (d:=default) (by omega)
    have ho:=getD_mem (l:=m.cls.getD i default) (i:=o.toNat) (d:=default) (by omega)
    have hch:=hm.chs _ hl _ ho
    have h1:=sat_ch _ out v 0 (chL_mem hch) h.v0 (by unfold In41;decide) (by rw[Int.add_zero];exact h)
    have h2:=sat_plan hm r (i+1) _ _ (fun j hj=>by
      have:=hg (j+1) (by simpa using hj)
      rwa [List.getD_cons_succ,show i+(j+1)=i+1+j by omega] at this) h1
    rw[List.length_cons,sumN_head]
    simp only[List.getD_cons_zero,List.getD_cons_succ,Nat.add_zero]
    rw[← Int.add_assoc]
    rw[sumN_congr (g:=fun j=>ownS ((m.cls.getD (i+(j+1)) default).getD (r.getD j 0).toNat default)) r.length fun j _=>by rw[show i+1+j=i+(j+1) by omega]] at h2
    exact h2
def entP (m:Mdl) (plan:List Int) (p:Pr):Int:=entryV m p (plan.getD p.fst.toNat 0) (plan.getD p.snd.toNat 0)
theorem sat_prs {m:Mdl} {plan:List Int} (hp:FP m plan):∀ (l:List Pr) (out:List Int) (v:Int),(∀ p∈l,pairB m p=true)→Sat m.rules out v →
    Sat m.rules (pairC m plan l out) (v+sumN (fun i=>entP m plan (l.getD i default)) l.length)
  | [],out,v,_,h=>by show Sat m.rules out (v+0);rw[Int.add_zero];exact h
  | p::r,out,v,hg,h=>by
    rw[pairC]
    have hpb:=hg p (by simp)
    obtain ⟨q1,q2,q3,q4,q5⟩:=pairB_iff hpb
    have hpl:=hp.len
    have g1:=hp.get p.fst.toNat (by omega)
    have g2:=hp.get p.snd.toNat (by omega)
    have a1:=optB_iff.1 g1
    have a2:=optB_iff.1 g2
    rw[if_pos ⟨a1.2.2.1,a2.2.2.1⟩]
    have h2:=sat_prs hp r _ _ (fun x hx=>hg x (by simp[hx])) (h.add q1 (entry_in hpb (plan.getD p.fst.toNat 0) (plan.getD p.snd.toNat 0)))
    rw[List.length_cons,sumN_head]
    simp only[List.getD_cons_zero,List.getD_cons_succ]
    rw[← Int.add_assoc]
    exact h2
def excP (plan:List Int) (c:Ct):Int:=excV c.most c.pen (loadS plan c.loads 0)
theorem sat_cts {m:Mdl} {plan:List Int}:∀ (l:List Ct) (out:List Int) (v:Int),(∀ c∈l,ctB m c=true)→Sat m.rules out v →
    Sat m.rules (countC plan l out) (v+sumN (fun i=>excP plan (l.getD i default)) l.length)
  | [],out,v,_,h=>by show Sat m.rules out (v+0);rw[Int.add_zero];exact h
  | c::r,out,v,hg,h=>by
    rw[countC]
    obtain ⟨q1,q2,q3,q4⟩:=ctB_iff (hg c (by simp))
    have h2:=sat_cts (plan:=plan) r _ _ (fun x hx=>hg x (by simp[hx])) (h.add q1 (excV_in (most:=c.most) (sum:=loadS plan c.loads 0) (price_in q3)))
    rw[List.length_cons,sumN_head]
    simp only[List.getD_cons_zero,List.getD_cons_succ]
    rw[← Int.add_assoc]
    exact h2
def ownP (m:Mdl) (plan:List Int) (j:Nat):Int:=ownS ((m.cls.getD j default).getD (plan.getD j 0).toNat default)
theorem total_sum {m:Mdl} {plan:List Int} (hv:VM m) (hp:FP m plan):totalL (rulesV m plan) 0 =
    min (sumN (ownP m plan) m.cls.length+sumN (fun i=>entP m plan (m.prs.getD i default)) m.prs.length+sumN (fun i=>excP plan (m.cts.getD i default)) m.cts.length) 1099511627776:=by
  have h0:Sat m.rules (List.replicate m.rules.toNat 0) 0:=by
    refine⟨OutOK.rep hv.rul.1,by decide,?_⟩
    have:∀ k,sumL (List.replicate k 0)=0:=by
      intro k
      induction k with
      | zero=>rfl
      | succ k ih=>rw[List.replicate_succ,sumL,ih];rfl
    rw[this]
  have h1:=sat_plan hv plan 0 _ _ (fun j hj=>by rw[Nat.zero_add];exact hp.get j hj) h0
  have h2:=sat_prs hp m.prs _ _ (prsL_mem hv.pr) h1
  have h3:=sat_cts (plan:=plan) m.cts _ _ hv.ct h2
  have htot:=totalL_sum (rulesV_ok hv plan).2 (n:=0) (by unfold In41;decide)
  have he:=h3.eq
  change min (sumL (rulesV m plan)) _=_ at he
  rw[htot,Int.zero_add,he,Int.zero_add,hp.len]
  simp only[Nat.zero_add]
  rfl
end T

