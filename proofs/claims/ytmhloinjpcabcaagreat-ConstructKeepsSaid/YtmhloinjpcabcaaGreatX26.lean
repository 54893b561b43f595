import Derived.Test.YtmhloinjpcabcaaGreatX24
import Derived.Test.YtmhloinjpcabcaaGreatX21
import Derived.Test.YtmhloinjpcabcaaGreatX25
set_option linter.unusedVariables false
set_option linter.unusedSimpArgs false
set_option linter.unnecessarySimpa false
set_option linter.unusedSectionVars false
set_option maxHeartbeats 64000000
set_option maxRecDepth 20000
open Go Go.Am
namespace T
theorem sumL_set:∀ (l:List Int) (i:Nat) (x:Int),i<l.length→sumL (l.set i x)=sumL l - l.getD i 0+x
  | [],i,x,h=>by simp at h
  | y::r,0,x,_=>by simp only[List.set_cons_zero,sumL,List.getD_cons_zero];omega
  | y::r,i+1,x,h=>by
    have:=sumL_set r i x (by simpa using h)
    simp only[List.set_cons_succ,sumL,List.getD_cons_succ];omega
structure Rel (R:Int) (out:List Int) (s:SC) (n:Nat):Prop where
  ok:OutOK R out
  b0:0≤s.1
  c0:0≤s.2∧s.2≤1048576 * n
  eq:s.1=0→sumL out=s.2
  ff:0<s.1→1099511627776∈out
theorem Rel.mono {R:Int} {out:List Int} {s:SC} {n k:Nat} (h:Rel R out s n) (hk:n≤k):Rel R out s k :=
  ⟨h.ok,h.b0,by have:=h.c0;omega,h.eq,h.ff⟩
theorem Rel.add {R:Int} {out:List Int} {s:SC} {n k:Nat} (h:Rel R out s n) {r d c t:Int} (hr:0≤r∧r<R) (ht:0≤t)
    (hc:(c=1099511627776∧d=if 0<t then 1099511627776 else 0)∨(c≠1099511627776∧d=c * t∧0≤d∧d≤1048576 * k)) (hb:n+k<1048576) :
    Rel R (addAt out r d) (scAdd s c t) (n+k):=by
  have hin:In41 d:=by
    unfold In41
    rcases hc with ⟨_,h⟩ | ⟨_,_,h1,h2⟩
    · rw[h];split<;>omega
    · omega
  have hlen:=h.ok.1
  have hi:r.toNat<out.length:=by omega
  have hg:=h.ok.get r.toNat
  have hmem:=getD_mem (d:=(0:Int)) hi
  have hs:=sumL_mem h.ok.2 _ hmem
  have hset:=sumL_set out r.toNat (addC (out.getD r.toNat 0) d) hi
  have hc0:=h.c0
  have hb0:=h.b0
  have hself:addC (out.getD r.toNat 0) d∈addAt out r d:=by
    unfold addAt
    have:(out.set r.toNat (addC (out.getD r.toNat 0) d)).getD r.toNat 0=addC (out.getD r.toNat 0) d:=by
      rw[List.getD_eq_getElem?_getD,List.getElem?_set_self hi];rfl
    have hm':=getD_mem (l:=out.set r.toNat (addC (out.getD r.toNat 0) d)) (i:=r.toNat) (d:=0) (by simpa using hi)
    rwa [this] at hm'
  have hstay:1099511627776∈out→1099511627776∈addAt out r d:=by
    intro hm
    obtain ⟨j,hj,hje⟩:=List.mem_iff_getElem.1 hm
    by_cases hjr:r.toNat=j
    · subst hjr
      have:out.getD r.toNat 0=1099511627776:=by rw[List.getD_eq_getElem?_getD,List.getElem?_eq_getElem hj];exact hje
      rw[this] at hself
      have e:addC 1099511627776 d=1099511627776:=by unfold In41 at hin;unfold addC;omega
      rwa [e] at hself
    · have:(addAt out r d).getD j 0=1099511627776:=by
        unfold addAt
        rw[List.getD_eq_getElem?_getD,List.getElem?_set_ne hjr,List.getElem?_eq_getElem hj];exact hje
      have hm':=getD_mem (l:=addAt out r d) (i:=j) (d:=0) (by unfold addAt;simpa using hj)
      rwa [this] at hm'
  unfold In41 at hg hin
  rcases hc with ⟨hcF,hd⟩ | ⟨hcF,hd,hd0,hdk⟩
  · unfold scAdd
    rw[if_pos hcF]
    refine⟨h.ok.add (by unfold In41;exact hin),by dsimp only;omega,by dsimp only;omega,fun hz=>?_,fun hz=>?_⟩
    · dsimp only at hz ⊢
      have:d=0:=by rw[hd,if_neg (by omega)]
      rw[← h.eq (by omega)]
      unfold addAt
      rw[hset]
      unfold addC
      omega
    · dsimp only at hz
      by_cases htz:0<t
      · have:addC (out.getD r.toNat 0) d=1099511627776:=by rw[hd,if_pos htz];unfold addC;omega
        rwa [this] at hself
      · exact hstay (h.ff (by omega))
  · unfold scAdd
    rw[if_neg hcF,← hd]
    refine⟨h.ok.add (by unfold In41;exact hin),by dsimp only;omega,by dsimp only;omega,fun hz=>?_,fun hz=>?_⟩
    · dsimp only at hz ⊢
      have he:=h.eq hz
      unfold addAt
      rw[hset]
      unfold addC
      omega
    · exact hstay (h.ff hz)
theorem planL_of {m:Mdl}:∀ (plan:List Int) (i:Nat),(∀ j,j<plan.length→plan.getD j 0 = -1∨optB m ((i+j:Nat):Int) (plan.getD j 0)=true)→planL m i plan=true
  | [],_,_=>rfl
  | o::r,i,h=>by
    rw[planL,Bool.and_eq_true,Bool.or_eq_true,decide_eq_true_eq]
    refine⟨by simpa using h 0 (by simp),planL_of r (i+1) fun j hj=>?_⟩
    have:=h (j+1) (by simpa using hj)
    rwa [List.getD_cons_succ,show i+(j+1)=i+1+j by omega] at this
theorem pm_planned {m:Mdl} {plan:List Int} (h:PM m plan):plannedV m plan=true:=by
  rw[plannedV,if_neg (by rw[h.len];simp)]
  exact planL_of plan 0 fun j hj=>by rw[Nat.zero_add];exact h.get j hj
def tCh (l:List (Int × Int)) (s:Int):Int:=(l.map (·.2)).foldl addC s
def tPlan (m:Mdl):Nat→List Int→Int→Int
  | _,[],s=>s
  | i,o::r,s=>tPlan m (i+1) r (if o<0 then s else tCh ((m.cls.getD i default).getD o.toNat default).ch s)
def tPrs (m:Mdl) (plan:List Int):List Pr→Int→Int
  | [],s=>s
  | p::r,s=>tPrs m plan r (if 0≤plan.getD p.fst.toNat 0∧0≤plan.getD p.snd.toNat 0 then addC s (entryV m p (plan.getD p.fst.toNat 0) (plan.getD p.snd.toNat 0)) else s)
def excN (plan:List Int) (c:Ct):Int:=max (loadS plan c.loads 0 - c.most) 0
def tCts (plan:List Int):List Ct→Int→Int
  | [],s=>s
  | c::r,s=>tCts plan r (addC s (timesV (excN plan c) c.pen))
def totW (m:Mdl) (plan:List Int):Int:=tCts plan m.cts (tPrs m plan m.prs (tPlan m 0 plan 0))
theorem exc_times {c:Ct} {plan:List Int} (h:priceB c.pen=true):timesV (excN plan c) c.pen=excV c.most c.pen (loadS plan c.loads 0):=by
  unfold priceB at h
  rw[decide_eq_true_eq] at h
  unfold timesV excN excV
  generalize loadS plan c.loads 0=s
  by_cases h1:s≤c.most
  · rw[if_pos (by omega),if_pos h1]
  · rw[if_neg (by omega),if_neg h1,show max (s - c.most) 0=s - c.most by omega]
    by_cases h2:1099511627776≤c.pen
    · rw[if_pos h2]
      have:1 * 1099511627776≤(s - c.most) * c.pen:=Int.mul_le_mul (by omega) h2 (by omega) (by omega)
      omega
    · rw[if_neg h2]
theorem Sat.cut {R:Int} {out:List Int} {s d:Int} (h:Sat R out (s+d)) (hs:In41 s) (hd:In41 d):Sat R out (addC s d):=by
  have:=addC_in hs hd
  unfold In41 at this hs hd
  exact h.le this.1 (by unfold addC;omega)
theorem tCh_in:∀ (l:List (Int × Int)) (s:Int),(∀ c∈l,In41 c.2)→In41 s→In41 (tCh l s)
  | [],s,_,h=>h
  | c::r,s,hc,h=>by
    show In41 (tCh r (addC s c.2))
    exact tCh_in r _ (fun x hx=>hc x (by simp[hx])) (addC_in h (hc c (by simp)))
theorem chsW_in {m:Mdl} (hm:VM m) (i k:Nat):∀ c∈((m.cls.getD i default).getD k default).ch,ruleB m.rules c.1=true∧priceB c.2=true:=by
  rcases Nat.lt_or_ge i m.cls.length with hi | hi
  · have hl:=getD_mem (l:=m.cls) (i:=i) (d:=default) hi
    rcases Nat.lt_or_ge k (m.cls.getD i default).length with hk | hk
    · exact chL_mem (hm.chs _ hl _ (getD_mem (d:=default) hk))
    · rw[List.getD_eq_getElem?_getD (l:=m.cls.getD i default),List.getElem?_eq_none hk];intro c hc;cases hc
  · rw[List.getD_eq_getElem?_getD (l:=m.cls),List.getElem?_eq_none hi];intro c hc;cases hc
theorem tw_plan {m:Mdl} (hm:VM m):∀ (plan:List Int) (i:Nat) (out:List Int) (s:Int),Sat m.rules out s→In41 s→Sat m.rules (planC m i plan out) (tPlan m i plan s)∧In41 (tPlan m i plan s)
  | [],i,out,s,h,hs=>⟨h,hs⟩
  | o::r,i,out,s,h,hs=>by
    rw[planC,tPlan]
    by_cases ho:o<0
    · rw[if_pos ho,if_pos ho];exact tw_plan hm r _ _ _ h hs
    · rw[if_neg ho,if_neg ho]
      have hc:=chsW_in hm i o.toNat
      have h1:=sat_ch _ out 0 s hc (Int.le_refl _) hs (by rw[Int.zero_add];exact h)
      rw[Int.zero_add] at h1
      exact tw_plan hm r _ _ _ h1 (tCh_in _ _ (fun c hx=>price_in (hc c hx).2) hs)
theorem tw_prs {m:Mdl} {plan:List Int}:∀ (l:List Pr) (out:List Int) (s:Int),(∀ p∈l,pairB m p=true)→Sat m.rules out s→In41 s→Sat m.rules (pairC m plan l out) (tPrs m plan l s)∧In41 (tPrs m plan l s)
  | [],out,s,_,h,hs=>⟨h,hs⟩
  | p::r,out,s,hg,h,hs=>by
    rw[pairC,tPrs]
    have hpb:=hg p (by simp)
    obtain ⟨q1,q2,q3,q4,q5⟩:=pairB_iff hpb
    by_cases hc:0≤plan.getD p.fst.toNat 0∧0≤plan.getD p.snd.toNat 0
    · rw[if_pos hc,if_pos hc]
      have he:=entry_in hpb (plan.getD p.fst.toNat 0) (plan.getD p.snd.toNat 0)
      exact tw_prs r _ _ (fun x hx=>hg x (by simp[hx])) ((h.add q1 he).cut hs he) (addC_in hs he)
    · rw[if_neg hc,if_neg hc]
      exact tw_prs r _ _ (fun x hx=>hg x (by simp[hx])) h hs
theorem tw_cts {m:Mdl} {plan:List Int}:∀ (l:List Ct) (out:List Int) (s:Int),(∀ c∈l,ctB m c=true)→Sat m.rules out s→In41 s→Sat m.rules (countC plan l out) (tCts plan l s)∧In41 (tCts plan l s)
  | [],out,s,_,h,hs=>⟨h,hs⟩
  | c::r,out,s,hg,h,hs=>by
    rw[countC,tCts]
    obtain ⟨q1,q2,q3,q4⟩:=ctB_iff (hg c (by simp))
    have he:=excV_in (most:=c.most) (sum:=loadS plan c.loads 0) (price_in q3)
    rw[exc_times q3]
    exact tw_cts r _ _ (fun x hx=>hg x (by simp[hx])) ((h.add q1 he).cut hs he) (addC_in hs he)
theorem totW_eq {m:Mdl} (hm:VM m) (plan:List Int):totW m plan=totalL (rulesV m plan) 0:=by
  have h0:Sat m.rules (List.replicate m.rules.toNat 0) 0:=by
    refine⟨OutOK.rep hm.rul.1,by decide,?_⟩
    have:∀ k,sumL (List.replicate k 0)=0:=by
      intro k
      induction k with
      | zero=>rfl
      | succ k ih=>rw[List.replicate_succ,sumL,ih];rfl
    rw[this]
  have h1:=tw_plan hm plan 0 _ _ h0 (by unfold In41;decide)
  have h2:=tw_prs (plan:=plan) m.prs _ _ (prsL_mem hm.pr) h1.1 h1.2
  have h3:=tw_cts (plan:=plan) m.cts _ _ hm.ct h2.1 h2.2
  have htot:=totalL_sum (rulesV_ok hm plan).2 (n:=0) (by unfold In41;decide)
  have he:=h3.1.eq
  have hs:=h3.2
  change min (sumL (rulesV m plan)) _=min (totW m plan) _ at he
  change In41 (totW m plan) at hs
  unfold In41 at hs
  rw[htot,Int.zero_add,he]
  omega
end T

