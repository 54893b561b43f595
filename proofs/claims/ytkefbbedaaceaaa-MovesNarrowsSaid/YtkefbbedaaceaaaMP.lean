import Derived.Test.YtkefbbedaaceaaaSM
import Derived.Test.YtkefbbedaaceaaaSA
set_option linter.unusedVariables false
set_option linter.unusedSimpArgs false
open Go Go.Am
namespace T
structure Sat (R:Int) (out:List Int) (v:Int):Prop where
  ok:OutOK R out
  v0:0≤v
  eq:min (sumL out) 1099511627776=min v 1099511627776
theorem sumL_upd:∀ (l:List Int) (i:Nat) (x:Int),i<l.length→sumL (l.set i x)=sumL l - l.getD i 0+x
  | [],i,x,h=>by simp at h
  | y::r,0,x,_=>by simp only[List.set_cons_zero,sumL,List.getD_cons_zero];omega
  | y::r,i+1,x,h=>by
    have:=sumL_upd r i x (by simpa using h)
    simp only[List.set_cons_succ,sumL,List.getD_cons_succ];omega
theorem Sat.add {R:Int} {out:List Int} {v r d:Int} (h:Sat R out v) (hr:0≤r∧r<R) (hd:In41 d):Sat R (addAt out r d) (v+d):=by
  have hlen:=h.ok.1
  have hi:r.toNat<out.length:=by omega
  have hs:=sumL_mem h.ok.2 _ (getD_mem (d:=(0:Int)) hi)
  have hset:=sumL_upd out r.toNat (addC (out.getD r.toNat 0) d) hi
  have hg:=h.ok.get r.toNat
  have he:=h.eq
  have hv:=h.v0
  unfold In41 at hg
  have hd2:=hd
  unfold In41 at hd2
  refine⟨h.ok.add hd,by omega,?_⟩
  unfold addAt
  rw[hset]
  unfold addC
  omega
theorem Sat.le {R:Int} {out:List Int} {v w:Int} (h:Sat R out v) (hw:0≤w) (e:min v 1099511627776=min w 1099511627776):Sat R out w:=⟨h.ok,hw,h.eq.trans e⟩
theorem sat_ch {R:Int}:∀ (l:List (Int × Int)) (out:List Int) (v n:Int),(∀ c∈l,ruleB R c.1=true∧priceB c.2=true)→0≤v→In41 n→Sat R out (v+n)→Sat R (chargesL l out) (v+(l.map (·.2)).foldl addC n)
  | [],out,v,n,_,_,_,h=>h
  | c::r,out,v,n,hc,hv,hn0,h=>by
    rw[chargesL]
    have h1:=hc c (by simp)
    have hr:=h1.1
    rw[ruleB,decide_eq_true_eq] at hr
    have hp:=price_in h1.2
    have h2:=h.add hr hp
    refine sat_ch r _ v (addC n c.2) (fun x hx=>hc x (by simp[hx])) hv (addC_in hn0 hp) (h2.le ?_ ?_)
    · have:=addC_in hn0 hp;unfold In41 at this;omega
    · unfold In41 at hp hn0;unfold addC;omega
theorem sat_plan {m:Mdl} (hm:VM m):∀ (plan:List Int) (i:Nat) (out:List Int) (v:Int),(∀ j,j<plan.length→optB m ((i+j:Nat):Int) (plan.getD j 0)=true) →
    Sat m.rules out v→Sat m.rules (planC m i plan out) (v+sumN (fun j=>ownS ((m.cls.getD (i+j) default).getD (plan.getD j 0).toNat default)) plan.length)
  | [],i,out,v,_,h=>by show Sat m.rules out (v+0);rw[Int.add_zero];exact h
  | o::r,i,out,v,hg,h=>by
    rw[planC]
    have h0:=hg 0 (by simp)
    rw[List.getD_cons_zero,Nat.add_zero] at h0
    obtain ⟨b1,b2,b3,b4⟩:=optB_iff.1 h0
    rw[Int.toNat_natCast] at b4
    rw[if_neg (by omega)]
    have hl:=getD_mem (l:=m.cls) (i:=i) (d:=default) (by omega)
    have ho:=getD_mem (l:=m.cls.getD i default) (i:=o.toNat) (d:=default) (by omega)
    have hch:=hm.chs _ hl _ ho
    have h1:=sat_ch _ out v 0 (chL_mem hch) h.v0 (by unfold In41;decide) (by rw[Int.add_zero];exact h)
    have h2:=sat_plan hm r (i+1) _ _ (fun j hj=>by
      have:=hg (j+1) (by simpa using hj)
      rwa [List.getD_cons_succ,show i+(j+1)=i+1+j by omega] at this) h1
    rw[List.length_cons,sumN_head]
    simp only[List.getD_cons_zero,List.getD_cons_succ,Nat.add_zero]
    rw[← Int.add_assoc]
    rw[sumN_congr (g:=fun j=>ownS ((m.cls.getD (i+(j+1)) default).getD (r.getD j 0).toNat default)) r.length fun j _=>by rw[show i+1+j=i+(j+1) by omega]] at h2
    exact h2
def entP (m:Mdl) (plan:List Int) (p:Pr):Int:=entryV m p (plan.getD p.fst.toNat 0) (plan.getD p.snd.toNat 0)
theorem sat_prs {m:Mdl} {plan:List Int} (hp:FP m plan):∀ (l:List Pr) (out:List Int) (v:Int),(∀ p∈l,pairB m p=true)→Sat m.rules out v →
    Sat m.rules (pairC m plan l out) (v+sumN (fun i=>entP m plan (l.getD i default)) l.length)
  | [],out,v,_,h=>by show Sat m.rules out (v+0);rw[Int.add_zero];exact h
  | p::r,out,v,hg,h=>by
    rw[pairC]
    have hpb:=hg p (by simp)
    obtain ⟨q1,q2,q3,q4,q5⟩:=pairB_iff hpb
    have hpl:=hp.len
    have g1:=hp.get p.fst.toNat (by omega)
    have g2:=hp.get p.snd.toNat (by omega)
    have a1:=optB_iff.1 g1
    have a2:=optB_iff.1 g2
    rw[if_pos ⟨a1.2.2.1,a2.2.2.1⟩]
    have h2:=sat_prs hp r _ _ (fun x hx=>hg x (by simp[hx])) (h.add q1 (entry_in hpb (plan.getD p.fst.toNat 0) (plan.getD p.snd.toNat 0)))
    rw[List.length_cons,sumN_head]
    simp only[List.getD_cons_zero,List.getD_cons_succ]
    rw[← Int.add_assoc]
    exact h2
def excP (plan:List Int) (c:Ct):Int:=excV c.most c.pen (loadS plan c.loads 0)
theorem sat_cts {m:Mdl} {plan:List Int}:∀ (l:List Ct) (out:List Int) (v:Int),(∀ c∈l,ctB m c=true)→Sat m.rules out v →
    Sat m.rules (countC plan l out) (v+sumN (fun i=>excP plan (l.getD i default)) l.length)
  | [],out,v,_,h=>by show Sat m.rules out (v+0);rw[Int.add_zero];exact h
  | c::r,out,v,hg,h=>by
    rw[countC]
    obtain ⟨q1,q2,q3,q4⟩:=ctB_iff (hg c (by simp))
    have h2:=sat_cts (plan:=plan) r _ _ (fun x hx=>hg x (by simp[hx])) (h.add q1 (excV_in (most:=c.most) (sum:=loadS plan c.loads 0) (price_in q3)))
    rw[List.length_cons,sumN_head]
    simp only[List.getD_cons_zero,List.getD_cons_succ]
    rw[← Int.add_assoc]
    exact h2
def ownP (m:Mdl) (plan:List Int) (j:Nat):Int:=ownS ((m.cls.getD j default).getD (plan.getD j 0).toNat default)
theorem total_sum {m:Mdl} {plan:List Int} (hv:VM m) (hp:FP m plan):totalL (rulesV m plan) 0 =
    min (sumN (ownP m plan) m.cls.length+sumN (fun i=>entP m plan (m.prs.getD i default)) m.prs.length+sumN (fun i=>excP plan (m.cts.getD i default)) m.cts.length) 1099511627776:=by
  have h0:Sat m.rules (List.replicate m.rules.toNat 0) 0:=by
    refine⟨OutOK.rep hv.rul.1,by decide,?_⟩
    have:∀ k,sumL (List.replicate k 0)=0:=by
      intro k
      induction k with
      | zero=>rfl
      | succ k ih=>rw[List.replicate_succ,sumL,ih];rfl
    rw[this]
  have h1:=sat_plan hv plan 0 _ _ (fun j hj=>by rw[Nat.zero_add];exact hp.get j hj) h0
  have h2:=sat_prs hp m.prs _ _ (prsL_mem hv.pr) h1
  have h3:=sat_cts (plan:=plan) m.cts _ _ hv.ct h2
  have htot:=totalL_sum (rulesV_ok hv plan).2 (n:=0) (by unfold In41;decide)
  have he:=h3.eq
  change min (sumL (rulesV m plan)) _=_ at he
  rw[htot,Int.zero_add,he,Int.zero_add,hp.len]
  simp only[Nat.zero_add]
  rfl
end T

