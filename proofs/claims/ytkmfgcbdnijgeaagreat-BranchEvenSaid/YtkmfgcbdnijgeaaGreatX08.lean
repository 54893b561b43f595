import Derived.Test.YtkmfgcbdnijgeaaGreatX04
set_option linter.unusedVariables false
set_option linter.unusedSimpArgs false
set_option linter.unnecessarySimpa false
set_option linter.unusedSectionVars false
set_option maxHeartbeats 64000000
set_option maxRecDepth 20000
open Go Go.Am
namespace T
theorem Rc:type_of% @rows_length ∧type_of% @rows_getD ∧type_of% @rows_get ∧type_of% @rows_take ∧type_of% @rows_app ∧type_of% @rows_scal ∧type_of% @rows_ren  :=
  ⟨@rows_length ,@rows_getD ,@rows_get ,@rows_take ,@rows_app ,@rows_scal ,@rows_ren ⟩
def In64 (x:Int):Prop:=-9223372036854775808≤x∧x≤9223372036854775807
def modI (n m:Int):Int:=if m<1 then 0 else n % m
theorem modI_range (n m:Int) (hm:0<m):0≤modI n m∧modI n m<m:=by
  unfold modI
  rw[if_neg (by omega)]
  exact⟨Int.emod_nonneg _ (by omega),Int.emod_lt_of_pos _ (by omega)⟩
theorem tmod_cases (n m:Int) (hm:0<m):(n.tmod m<0→n % m=n.tmod m+m)∧(0≤n.tmod m→n % m=n.tmod m)∧-m<n.tmod m∧n.tmod m<m:=by
  have h1:=Int.emod_nonneg n (show m≠0 by omega)
  have h2:=Int.emod_lt_of_pos n hm
  rcases Int.lt_or_le n 0 with hn | hn
  · have h3:n.tmod m = -((-n) % m):=by
      have:=Int.neg_tmod (a:=-n) (b:=m)
      rw[Int.neg_neg] at this
      rw[this,Int.tmod_eq_emod_of_nonneg (by omega)]
    have h4:=Int.emod_nonneg (-n) (show m≠0 by omega)
    have h5:=Int.emod_lt_of_pos (-n) hm
    have h6:=Int.mul_ediv_add_emod n m
    have h7:=Int.mul_ediv_add_emod (-n) m
    have key:(n % m=0∧(-n) % m=0)∨n % m=m - (-n) % m:=by
      by_cases hz:(-n) % m=0
      · left
        have hd:m ∣ -n:=Int.dvd_of_emod_eq_zero hz
        have hd':m ∣ n:=(Int.dvd_neg).1 hd
        exact⟨Int.emod_eq_zero_of_dvd hd',hz⟩
      · right
        have:n=m * (-((-n) / m) - 1)+(m - (-n) % m):=by
          have : -n=m * ((-n) / m)+(-n) % m:=h7.symm
          rw[Int.mul_sub,Int.mul_neg]
          omega
        rw[this,Int.mul_add_emod_self_left]
        rw[← this]
        exact Int.emod_eq_of_lt (by omega) (by omega)
    rw[h3]
    refine⟨?_,?_,?_,?_⟩<;>omega
  · rw[Int.tmod_eq_emod_of_nonneg hn]
    refine⟨?_,?_,?_,?_⟩<;>omega
def nextV (L:List Int) (at':Nat) (n:Int):Int:=if at' ≥ L.length then 0 else modI (L.getD at' 0) n
def nextA (L:List Int) (at':Nat):Nat:=if at' ≥ L.length then at' else at'+1
theorem nextA_le {L:List Int} {k:Nat} (h:k≤L.length):nextA L k≤L.length:=by unfold nextA;split<;>omega
theorem nextV_range {L:List Int} {k:Nat} {n:Int} (h:0<n):0≤nextV L k n∧nextV L k n<n:=by
  unfold nextV
  split
  · omega
  · exact modI_range _ _ h
def oneV (L:List Int) (k:Nat) (n:Int):Bool:=decide (nextV L k n=n - 1)
theorem getD_mem {α:Type} {l:List α} {i:Nat} {d:α} (h:i<l.length):l.getD i d∈l:=by
  rw[List.getD_eq_getElem?_getD,List.getElem?_eq_getElem h]
  exact List.getElem_mem h
theorem tup3 {σ:St} {kp:Nat→Prop} {ρ:Nat→Nat} {snap:Bool} {a b c d e f:AV} (h:ArgR σ kp ρ snap a d) (k:ArgR σ kp ρ snap b e) (l:ArgR σ kp ρ snap c f):ArgR σ kp ρ snap (.tup [a,b,c]) (.tup [d,e,f]) :=
  .tup _ _ rfl (ArgsR.spec (R:=ArgR σ kp ρ snap) (cs:=[a,b,c]) (ds:=[d,e,f]) ⟨h,k,l,trivial⟩).2
def addC (a b:Int):Int:=min (a+b) 1099511627776
def priceB (n:Int):Bool:=decide ((1≤n∧n≤1048576)∨n=1099511627776)
def ruleB (R n:Int):Bool:=decide (0≤n∧n<R)
def optB (m:Mdl) (c o:Int):Bool:=decide (0≤c∧c<m.cls.length∧0≤o∧o<(m.cls.getD c.toNat default).length)
def cmp3 (a b:Int):Int:=if a<b then -1 else if b<a then 1 else 0
def orL:List Int→Int
  | []=>0
  | x::r=>if x≠0 then x else orL r
def excV (most pen sum:Int):Int:=if sum≤most then 0 else min ((sum - most) * pen) 1099511627776
def timesV (n c:Int):Int:=if n≤0 then 0 else if 1099511627776≤c then 1099511627776 else min (n * c) 1099511627776
def prevAt {α:Type} [Inhabited α] (l:List α) (k:Nat):Option α:=if k=0 then none else some (l.getD (k - 1) default)
def chL (R:Int):Option (Int × Int)→List (Int × Int)→Bool
  | _,[]=>true
  | q,c::r=>(ruleB R c.1 && priceB c.2 && (match q with | none=>true | some q=>decide (q.1<c.1))) && chL R (some c) r
def ordV (a b:Pr):Int:=orL [cmp3 a.rule b.rule,cmp3 a.fst b.fst,cmp3 a.snd b.snd]
def badN (n:Int):Bool:=decide (n≠0) && !priceB n
def pairB (m:Mdl) (p:Pr):Bool:=ruleB m.rules p.rule && decide (0≤p.fst∧p.fst<p.snd∧p.snd<m.cls.length∧(p.tab.length:Int)=(m.cls.getD p.fst.toNat default).length * (m.cls.getD p.snd.toNat default).length) && !p.tab.any badN
def prsL (m:Mdl):Option Pr→List Pr→Bool
  | _,[]=>true
  | q,p::r=>(pairB m p && (match q with | none=>true | some q=>decide (ordV q p<0))) && prsL m (some p) r
def ldOrd (a b:Ld):Int:=orL [cmp3 a.cls b.cls,cmp3 a.opt b.opt]
def ldL (m:Mdl):Option Ld→List Ld→Bool
  | _,[]=>true
  | q,x::r=>(optB m x.cls x.opt && decide (1≤x.wt∧x.wt≤1000) && (match q with | none=>true | some q=>decide (ldOrd q x<0))) && ldL m (some x) r
def ctB (m:Mdl) (c:Ct):Bool:=ruleB m.rules c.rule && decide (0≤c.most∧c.most≤1048576) && priceB c.pen && ldL m none c.loads
def largeB (m:Mdl):Bool:=decide (24<m.cls.length∨m.cls.any (fun l=>decide (24<l.length))=true∨4000<m.prs.length∨800<m.cts.length∨m.rules<0∨56<m.rules)
def validV (m:Mdl):Int:=if largeB m=true then 2 else if (m.cls.any fun l=>l.any fun o=>!chL m.rules none o.ch)=true then 1 else if prsL m none m.prs=false then 1 else if (m.cts.any fun c=>!ctB m c)=true then 1 else 0
def planL (m:Mdl):Nat→List Int→Bool
  | _,[]=>true
  | i,o::r=>(decide (o = -1) || optB m i o) && planL m (i+1) r
def plannedV (m:Mdl) (plan:List Int):Bool:=if plan.length≠m.cls.length then false else planL m 0 plan
theorem prevAt_succ {α:Type} [Inhabited α] (l:List α) (k:Nat):prevAt l (k+1)=some (l.getD k default):=by simp[prevAt]
theorem chL_at {R:Int} {l r:List (Int × Int)} {k:Nat} {c:Int × Int}:chL R (prevAt l k) (c::r)=((ruleB R c.1 && priceB c.2 && (decide (k=0) || decide ((l.getD (k - 1) default).1<c.1))) && chL R (some c) r):=by
  by_cases h:k=0<;>simp[prevAt,h,chL]
theorem prsL_at {m:Mdl} {l r:List Pr} {k:Nat} {p:Pr}:prsL m (prevAt l k) (p::r)=((pairB m p && (decide (k=0) || decide (ordV (l.getD (k - 1) default) p<0))) && prsL m (some p) r):=by
  by_cases h:k=0<;>simp[prevAt,h,prsL]
theorem ldL_at {m:Mdl} {l r:List Ld} {k:Nat} {x:Ld}:ldL m (prevAt l k) (x::r)=((optB m x.cls x.opt && decide (1≤x.wt∧x.wt≤1000) && (decide (k=0) || decide (ldOrd (l.getD (k - 1) default) x<0))) && ldL m (some x) r):=by
  by_cases h:k=0<;>simp[prevAt,h,ldL]
structure MB (m:Mdl):Prop where
  cls:m.cls.length<9223372036854775808
  opt:∀ l∈m.cls,l.length<9223372036854775808
  ch:∀ l∈m.cls,∀ o∈l,o.ch.length<9223372036854775808
  prs:m.prs.length<9223372036854775808
  tab:∀ p∈m.prs,p.tab.length<9223372036854775808
  cts:m.cts.length<9223372036854775808
  lds:∀ c∈m.cts,c.loads.length<9223372036854775808
def addAt (out:List Int) (r c:Int):List Int:=out.set r.toNat (addC (out.getD r.toNat 0) c)
def chargesL:List (Int × Int)→List Int→List Int
  | [],out=>out
  | c::r,out=>chargesL r (addAt out c.1 c.2)
def planC (m:Mdl):Nat→List Int→List Int→List Int
  | _,[],out=>out
  | i,o::r,out=>planC m (i+1) r (if o<0 then out else chargesL ((m.cls.getD i default).getD o.toNat default).ch out)
def entryV (m:Mdl) (p:Pr) (x y:Int):Int:=p.tab.getD (x * (m.cls.getD p.snd.toNat default).length+y).toNat 0
def pairC (m:Mdl) (plan:List Int):List Pr→List Int→List Int
  | [],out=>out
  | p::r,out=>pairC m plan r (if 0≤plan.getD p.fst.toNat 0∧0≤plan.getD p.snd.toNat 0 then addAt out p.rule (entryV m p (plan.getD p.fst.toNat 0) (plan.getD p.snd.toNat 0)) else out)
def loadS (plan:List Int):List Ld→Int→Int
  | [],n=>n
  | x::r,n=>loadS plan r (if plan.getD x.cls.toNat 0=x.opt then n+x.wt else n)
def countC (plan:List Int):List Ct→List Int→List Int
  | [],out=>out
  | c::r,out=>countC plan r (addAt out c.rule (excV c.most c.pen (loadS plan c.loads 0)))
def totalL:List Int→Int→Int
  | [],n=>n
  | x::r,n=>totalL r (addC n x)
def rulesV (m:Mdl) (plan:List Int):List Int:=countC plan m.cts (pairC m plan m.prs (planC m 0 plan (List.replicate m.rules.toNat 0)))
def costsV (m:Mdl) (plan:List Int):Int × List Int:=(totalL (rulesV m plan) 0,rulesV m plan)
def costT (m:Mdl) (plan:List Int):Int × List Int × Int :=
  if validV m≠0 then (0,[],validV m) else if plannedV m plan=false then (0,[],17) else ((costsV m plan).1,(costsV m plan).2,0)
def In41 (x:Int):Prop:=0≤x∧x≤1099511627776
theorem addC_in {a b:Int} (ha:In41 a) (hb:In41 b):In41 (addC a b):=by unfold In41 addC at *;omega
theorem price_in {n:Int} (h:priceB n=true):In41 n:=by unfold priceB at h;rw[decide_eq_true_eq] at h;unfold In41;omega
def OutOK (R:Int) (out:List Int):Prop:=(out.length:Int)=R∧∀ x∈out,In41 x
theorem OutOK.get {R:Int} {out:List Int} (h:OutOK R out) (i:Nat):In41 (out.getD i 0):=by
  rcases Nat.lt_or_ge i out.length with hi | hi
  · exact h.2 _ (getD_mem hi)
  · rw[List.getD_eq_getElem?_getD,List.getElem?_eq_none hi];unfold In41;decide
theorem OutOK.add {R:Int} {out:List Int} (h:OutOK R out) {r c:Int} (hc:In41 c):OutOK R (addAt out r c) :=
  ⟨by rw[addAt,List.length_set];exact h.1,fun x hx=>by
    rcases List.mem_or_eq_of_mem_set hx with h' | h'
    · exact h.2 x h'
    · rw[h'];exact addC_in (h.get _) hc⟩
theorem OutOK.rep {R:Int} (hR:0≤R):OutOK R (List.replicate R.toNat 0):=⟨by simp;omega,fun x hx=>by
  have:=List.eq_of_mem_replicate hx
  subst this;unfold In41;decide⟩
structure VM (m:Mdl):Prop where
  cls:m.cls.length≤24
  opt:∀ l∈m.cls,l.length≤24
  prs:m.prs.length≤4000
  cts:m.cts.length≤800
  rul:0≤m.rules∧m.rules≤56
  chs:∀ l∈m.cls,∀ o∈l,chL m.rules none o.ch=true
  pr:prsL m none m.prs=true
  ct:∀ c∈m.cts,ctB m c=true
theorem valid_iff {m:Mdl}:validV m=0↔VM m:=by
  unfold validV
  constructor
  · intro h
    split at h
    · omega
    split at h
    · omega
    split at h
    · omega
    split at h
    · omega
    rename_i h1 h2 h3 h4
    have h1':largeB m=false:=by simpa using h1
    rw[largeB,decide_eq_false_iff_not] at h1'
    have h5:∀ l∈m.cls,l.length≤24:=fun l hl=>by
      rcases Nat.lt_or_ge 24 l.length with h | h
      · exact absurd (.inr (.inl (List.any_eq_true.2 ⟨l,hl,by simpa using h⟩))) h1'
      · exact h
    refine⟨by omega,h5,by omega,by omega,by omega,fun l hl o ho=>?_,by simpa using h3,fun c hc=>?_⟩
    · cases hh:chL m.rules none o.ch with
      | true=>rfl
      | false=>exact absurd (List.any_eq_true.2 ⟨l,hl,List.any_eq_true.2 ⟨o,ho,by rw[hh];rfl⟩⟩) h2
    · cases hh:ctB m c with
      | true=>rfl
      | false=>exact absurd (List.any_eq_true.2 ⟨c,hc,by rw[hh];rfl⟩) h4
  · intro h
    have h0:largeB m=false:=by
      rw[largeB,decide_eq_false_iff_not]
      rintro (h' | h' | h' | h' | h' | h')
      · have:=h.cls;omega
      · obtain ⟨l,hl,h''⟩:=List.any_eq_true.1 h'
        have:=h.opt l hl
        simp only[decide_eq_true_eq] at h'';omega
      · have:=h.prs;omega
      · have:=h.cts;omega
      · have:=h.rul;omega
      · have:=h.rul;omega
    rw[if_neg (by rw[h0];simp),if_neg,if_neg (by rw[h.pr];simp),if_neg]
    · intro hh
      obtain ⟨c,hc,h'⟩:=List.any_eq_true.1 hh
      rw[h.ct c hc] at h';simp at h'
    · intro hh
      obtain ⟨l,hl,h'⟩:=List.any_eq_true.1 hh
      obtain ⟨o,ho,h''⟩:=List.any_eq_true.1 h'
      rw[h.chs l hl o ho] at h'';simp at h''
theorem chL_mem {R:Int}:∀ {l:List (Int × Int)} {q:Option (Int × Int)},chL R q l=true→∀ c∈l,ruleB R c.1=true∧priceB c.2=true
  | [],_,_,c,hc=>by simp at hc
  | x::r,q,h,c,hc=>by
    rw[chL.eq_def] at h
    simp only[Bool.and_eq_true] at h
    rcases List.mem_cons.1 hc with rfl | hc
    · exact h.1.1
    · exact chL_mem h.2 c hc
theorem chL_len {R:Int}:∀ {l:List (Int × Int)} {q:Int × Int},chL R (some q) l=true→l=[]∨q.1+l.length<R
  | [],_,_=>.inl rfl
  | x::r,q,h=>by
    right
    rw[chL] at h
    simp only[Bool.and_eq_true,decide_eq_true_eq,ruleB] at h
    rcases chL_len h.2 with rfl | h5
    · simp only[List.length_cons,List.length_nil];omega
    · simp only[List.length_cons];omega
theorem chL_len0 {R:Int} {l:List (Int × Int)} (hR:0≤R) (h:chL R none l=true):(l.length:Int)≤R:=by
  cases l with
  | nil=>simpa using hR
  | cons x r =>
    rw[chL] at h
    simp only[Bool.and_eq_true,decide_eq_true_eq,ruleB] at h
    rcases chL_len h.2 with rfl | h5
    · simp only[List.length_cons,List.length_nil];omega
    · simp only[List.length_cons];omega
theorem prsL_mem {m:Mdl}:∀ {l:List Pr} {q:Option Pr},prsL m q l=true→∀ p∈l,pairB m p=true
  | [],_,_,c,hc=>by simp at hc
  | x::r,q,h,c,hc=>by
    rw[prsL.eq_def] at h
    simp only[Bool.and_eq_true] at h
    rcases List.mem_cons.1 hc with rfl | hc
    · exact h.1.1
    · exact prsL_mem h.2 c hc
theorem optB_iff {m:Mdl} {c o:Int}:optB m c o=true↔0≤c∧c<m.cls.length∧0≤o∧o<(m.cls.getD c.toNat default).length:=by rw[optB,decide_eq_true_eq]
theorem optB_24 {m:Mdl} (h:VM m) {c o:Int} (hb:optB m c o=true):0≤c∧c<24∧0≤o∧o<24:=by
  obtain ⟨h1,h2,h3,h4⟩:=optB_iff.1 hb
  have:=h.cls
  have:=h.opt _ (getD_mem (l:=m.cls) (i:=c.toNat) (d:=default) (by omega))
  omega
theorem cmp3_cases (a b:Int):(a<b∧cmp3 a b = -1)∨(a=b∧cmp3 a b=0)∨(b<a∧cmp3 a b=1):=by
  unfold cmp3
  rcases Int.lt_trichotomy a b with h | h | h
  · left;exact⟨h,by rw[if_pos h]⟩
  · right;left;exact⟨h,by rw[if_neg (by omega),if_neg (by omega)]⟩
  · right;right;exact⟨h,by rw[if_neg (by omega),if_pos h]⟩
theorem ldOrd_lt {a b:Ld}:ldOrd a b<0↔a.cls<b.cls∨(a.cls=b.cls∧a.opt<b.opt):=by
  unfold ldOrd
  rcases cmp3_cases a.cls b.cls with ⟨h,e⟩ | ⟨h,e⟩ | ⟨h,e⟩<;>rcases cmp3_cases a.opt b.opt with ⟨h',e'⟩ | ⟨h',e'⟩ | ⟨h',e'⟩<;>simp[orL,e,e']<;>omega
theorem ordV_lt {a b:Pr}:ordV a b<0↔a.rule<b.rule∨(a.rule=b.rule∧(a.fst<b.fst∨(a.fst=b.fst∧a.snd<b.snd))):=by
  unfold ordV
  rcases cmp3_cases a.rule b.rule with ⟨h,e⟩ | ⟨h,e⟩ | ⟨h,e⟩<;>rcases cmp3_cases a.fst b.fst with ⟨h',e'⟩ | ⟨h',e'⟩ | ⟨h',e'⟩<;>rcases cmp3_cases a.snd b.snd with ⟨h2,e2⟩ | ⟨h2,e2⟩ | ⟨h2,e2⟩<;>simp[orL,e,e',e2]<;>omega
theorem ldL_len {m:Mdl} (hm:VM m):∀ {l:List Ld} {q:Ld},ldL m (some q) l=true→0≤q.cls∧0≤q.opt∧q.opt<24→l=[]∨q.cls * 24+q.opt+l.length<576
  | [],_,_,_=>.inl rfl
  | x::r,q,h,hq=>by
    right
    rw[ldL] at h
    simp only[Bool.and_eq_true,decide_eq_true_eq] at h
    obtain ⟨⟨⟨h1,h2⟩,h3⟩,h4⟩:=h
    obtain ⟨a,b,c,d⟩:=optB_24 hm h1
    have hlt:q.cls * 24+q.opt<x.cls * 24+x.opt:=by
      rcases ldOrd_lt.1 h3 with h | h<;>omega
    rcases ldL_len hm h4 ⟨a,c,d⟩ with rfl | h5
    · simp only[List.length_cons,List.length_nil];omega
    · simp only[List.length_cons];omega
theorem ldL_len0 {m:Mdl} (hm:VM m) {l:List Ld} (h:ldL m none l=true):l.length≤576:=by
  cases l with
  | nil=>simp
  | cons x r =>
    rw[ldL] at h
    simp only[Bool.and_eq_true,decide_eq_true_eq] at h
    obtain ⟨a,b,c,d⟩:=optB_24 hm h.1.1.1
    rcases ldL_len hm h.2 ⟨a,c,d⟩ with rfl | h5
    · simp
    · simp only[List.length_cons];omega
theorem ldL_mem {m:Mdl}:∀ {l:List Ld} {q:Option Ld},ldL m q l=true→∀ x∈l,optB m x.cls x.opt=true∧1≤x.wt∧x.wt≤1000
  | [],_,_,c,hc=>by simp at hc
  | x::r,q,h,c,hc=>by
    rw[ldL.eq_def] at h
    simp only[Bool.and_eq_true,decide_eq_true_eq] at h
    rcases List.mem_cons.1 hc with rfl | hc
    · exact⟨h.1.1.1,h.1.1.2⟩
    · exact ldL_mem h.2 c hc
theorem loadS_range {m:Mdl} {plan:List Int}:∀ {l:List Ld},(∀ x∈l,1≤x.wt∧x.wt≤1000)→∀ n,n≤loadS plan l n∧loadS plan l n≤n+1000 * l.length
  | [],_,n=>by simp[loadS]
  | x::r,h,n=>by
    have hx:=h x (by simp)
    rw[loadS]
    have:=loadS_range (m:=m) (plan:=plan) (l:=r) (fun y hy=>h y (by simp[hy])) (if plan.getD x.cls.toNat 0=x.opt then n+x.wt else n)
    simp only[List.length_cons]
    split at this<;>split<;>simp_all<;>omega
theorem excV_in {most pen sum:Int} (h:In41 pen):In41 (excV most pen sum):=by
  unfold excV In41 at *
  split
  · omega
  · have:0≤(sum - most) * pen:=Int.mul_nonneg (by omega) h.1
    omega
theorem chargesL_ok {R:Int}:∀ {l:List (Int × Int)} {out:List Int},OutOK R out→(∀ c∈l,priceB c.2=true)→OutOK R (chargesL l out)
  | [],_,h,_=>h
  | c::r,out,h,hc=>by rw[chargesL];exact chargesL_ok (h.add (price_in (hc c (by simp)))) fun x hx=>hc x (by simp[hx])
theorem planL_get {m:Mdl}:∀ {plan:List Int} {i:Nat},planL m i plan=true→∀ j,j<plan.length→plan.getD j 0 = -1∨optB m ((i+j:Nat):Int) (plan.getD j 0)=true
  | [],_,_,j,hj=>by simp at hj
  | o::r,i,h,j,hj=>by
    rw[planL] at h
    simp only[Bool.and_eq_true,Bool.or_eq_true,decide_eq_true_eq] at h
    cases j with
    | zero=>rw[List.getD_cons_zero];exact h.1
    | succ j =>
      rw[List.getD_cons_succ]
      have:=planL_get h.2 j (by simpa using hj)
      rwa [show i+1+j=i+(j+1) by omega] at this
structure PM (m:Mdl) (plan:List Int):Prop where
  len:plan.length=m.cls.length
  get:∀ j,j<plan.length→plan.getD j 0 = -1∨optB m (j:Nat) (plan.getD j 0)=true
theorem planned_pm {m:Mdl} {plan:List Int} (h:plannedV m plan=true):PM m plan:=by
  unfold plannedV at h
  split at h
  · simp at h
  · refine⟨by omega,fun j hj=>?_⟩
    have:=planL_get h j hj
    rwa [Nat.zero_add] at this
theorem pairB_iff {m:Mdl} {p:Pr} (h:pairB m p=true):(0≤p.rule∧p.rule<m.rules)∧0≤p.fst∧p.fst<p.snd∧p.snd<m.cls.length∧(p.tab.length:Int)=(m.cls.getD p.fst.toNat default).length * (m.cls.getD p.snd.toNat default).length:=by
  unfold pairB ruleB at h
  simp only[Bool.and_eq_true,decide_eq_true_eq] at h
  exact⟨h.1.1,h.1.2⟩
theorem entry_idx {x y a b:Int} (hx:0≤x∧x<a) (hy:0≤y∧y<b) (ha:a≤24) (hb:b≤24):0≤x * b∧x * b≤576∧x * b+y<a * b:=by
  have h1:0≤x * b:=Int.mul_nonneg hx.1 (by omega)
  have h2:x * b≤(a - 1) * b:=Int.mul_le_mul_of_nonneg_right (by omega) (by omega)
  have h3:(a - 1) * b=a * b - b:=by rw[Int.sub_mul,Int.one_mul]
  have h4:a * b≤24 * 24:=Int.mul_le_mul ha hb (by omega) (by omega)
  omega
theorem ctB_iff {m:Mdl} {c:Ct} (h:ctB m c=true):(0≤c.rule∧c.rule<m.rules)∧(0≤c.most∧c.most≤1048576)∧priceB c.pen=true∧ldL m none c.loads=true:=by
  unfold ctB ruleB at h
  simp only[Bool.and_eq_true,decide_eq_true_eq] at h
  exact⟨h.1.1.1,h.1.1.2,h.1.2,h.2⟩
theorem entry_in {m:Mdl} {p:Pr} (hp:pairB m p=true) (x y:Int):In41 (entryV m p x y):=by
  unfold entryV
  rcases Nat.lt_or_ge (x * (m.cls.getD p.snd.toNat default).length+y).toNat p.tab.length with h | h
  · unfold pairB at hp
    simp only[Bool.and_eq_true,Bool.not_eq_true',List.any_eq_false] at hp
    have:=hp.2 _ (getD_mem (d:=0) h)
    unfold badN at this
    simp only[Bool.and_eq_true,decide_eq_true_eq,Bool.not_eq_true',not_and,Bool.not_eq_false] at this
    generalize p.tab.getD (x * (m.cls.getD p.snd.toNat default).length+y).toNat 0=n at *
    by_cases h0:n=0
    · subst h0;unfold In41;decide
    · exact price_in (this h0)
  · rw[List.getD_eq_getElem?_getD,List.getElem?_eq_none h];unfold In41;decide
theorem prsL_app {m:Mdl} {c:Pr}:∀ {l:List Pr} {q:Option Pr},prsL m q l=true→pairB m c=true→(∀ x∈l,ordV x c<0)→(∀ y,q=some y→ordV y c<0)→prsL m q (l++[c])=true
  | [],q,_,h1,_,h3=>by
    rw[List.nil_append,prsL.eq_def]
    cases q with
    | none=>simp[h1,prsL]
    | some y=>simp[h1,prsL,h3 y rfl]
  | x::r,q,h,h1,h3,h4=>by
    rw[prsL.eq_def] at h
    simp only[Bool.and_eq_true] at h
    rw[List.cons_append,prsL.eq_def]
    simp only[Bool.and_eq_true]
    exact⟨h.1,prsL_app h.2 h1 (fun y hy=>h3 y (by simp[hy])) (fun y hy=>by simp only[Option.some.injEq] at hy;subst hy;exact h3 _ (by simp))⟩
theorem ldL_app {m:Mdl} {c:Ld}:∀ {l:List Ld} {q:Option Ld},ldL m q l=true→optB m c.cls c.opt=true→(1≤c.wt∧c.wt≤1000)→(∀ x∈l,ldOrd x c<0)→(∀ y,q=some y→ldOrd y c<0)→ldL m q (l++[c])=true
  | [],q,_,h1,h2,_,h3=>by
    rw[List.nil_append,ldL.eq_def]
    cases q with
    | none=>simp[h1,h2,ldL]
    | some y=>simp[h1,h2,ldL,h3 y rfl]
  | x::r,q,h,h1,h2,h3,h4=>by
    rw[ldL.eq_def] at h
    simp only[Bool.and_eq_true] at h
    rw[List.cons_append,ldL.eq_def]
    simp only[Bool.and_eq_true]
    exact⟨h.1,ldL_app h.2 h1 h2 (fun y hy=>h3 y (by simp[hy])) (fun y hy=>by simp only[Option.some.injEq] at hy;subst hy;exact h3 _ (by simp))⟩
theorem prsL_same {cls:List (List Opt)} {R:Int} {a b:List Pr} {c d:List Ct}:∀ (l:List Pr) (q:Option Pr),prsL ⟨cls,a,c,R⟩ q l=prsL ⟨cls,b,d,R⟩ q l
  | [],_=>rfl
  | x::r,q=>by
    have:=prsL_same (cls:=cls) (R:=R) (a:=a) (b:=b) (c:=c) (d:=d) r (some x)
    cases q<;>simp only[prsL,this]<;>rfl
theorem ldL_same {cls:List (List Opt)} {R:Int} {a b:List Pr} {c d:List Ct}:∀ (l:List Ld) (q:Option Ld),ldL ⟨cls,a,c,R⟩ q l=ldL ⟨cls,b,d,R⟩ q l
  | [],_=>rfl
  | x::r,q=>by
    have:=ldL_same (cls:=cls) (R:=R) (a:=a) (b:=b) (c:=c) (d:=d) r (some x)
    cases q<;>simp only[ldL,this]<;>rfl
theorem ctB_same {cls:List (List Opt)} {R:Int} {a b:List Pr} {c d:List Ct} (x:Ct):ctB ⟨cls,a,c,R⟩ x=ctB ⟨cls,b,d,R⟩ x:=by
  unfold ctB;rw[ldL_same (a:=a) (b:=b) (c:=c) (d:=d)]
structure MM (m:Mdl) (classes options:Nat):Prop where
  vm:VM m
  few:m.cls.length≤classes
  some:∀ l∈m.cls,1≤l.length∧l.length≤options
  rul:1≤m.rules∧m.rules≤4
  cts:m.cts.length≤2
theorem VM.mb {m:Mdl} (h:VM m):MB m:=by
  refine⟨by have:=h.cls;omega,fun l hl=>by have:=h.opt l hl;omega,fun l hl o ho=>?_,by have:=h.prs;omega,fun p hp=>?_,by have:=h.cts;omega,fun c hc=>?_⟩
  · have:=chL_len0 h.rul.1 (h.chs l hl o ho)
    have:=h.rul;omega
  · obtain ⟨_,h1,h2,h3,h4⟩:=pairB_iff (prsL_mem h.pr p hp)
    have a:=h.opt _ (getD_mem (l:=m.cls) (i:=p.fst.toNat) (d:=default) (by omega))
    have b:=h.opt _ (getD_mem (l:=m.cls) (i:=p.snd.toNat) (d:=default) (by omega))
    have:((m.cls.getD p.fst.toNat default).length:Int) * (m.cls.getD p.snd.toNat default).length≤24 * 24:=Int.mul_le_mul (by omega) (by omega) (by omega) (by omega)
    omega
  · have:=ldL_len0 h (ctB_iff (h.ct c hc)).2.2.2
    omega
def lexlt (p:Pr) (u i k:Nat):Prop:=p.rule<u∨(p.rule=u∧(p.fst<i∨(p.fst=i∧p.snd<k)))
structure PInv (cls:List (List Opt)) (R:Int) (prs:List Pr) (u i k:Nat):Prop where
  ok:prsL ⟨cls,[],[],R⟩ none prs=true
  lt:∀ p∈prs,lexlt p u i k
  len:prs.length≤576 * u+24 * i+k
theorem PInv.mono {cls:List (List Opt)} {R:Int} {prs:List Pr} {u i k u' i' k':Nat} (h:PInv cls R prs u i k) (hl:u<u'∨(u=u'∧(i<i'∨(i=i'∧k≤k')))) (hs:576 * u+24 * i+k≤576 * u'+24 * i'+k'):PInv cls R prs u' i' k' :=
  ⟨h.ok,fun p hp=>by have:=h.lt p hp;unfold lexlt at *;omega,by have:=h.len;omega⟩
theorem PInv.app {cls:List (List Opt)} {R:Int} {prs:List Pr} {u i k:Nat} (h:PInv cls R prs u i k) {tab:List Int} (hp:pairB ⟨cls,[],[],R⟩ ⟨i,k,u,tab⟩=true):PInv cls R (prs++[⟨i,k,u,tab⟩]) u i (k+1):=by
  refine⟨prsL_app h.ok hp (fun x hx=>?_) (by simp),fun p hp=>?_,by have:=h.len;simp;omega⟩
  · have:=h.lt x hx
    rw[ordV_lt];unfold lexlt at this;dsimp only;omega
  · rcases List.mem_append.1 hp with hp | hp
    · have:=h.lt p hp;unfold lexlt at *;omega
    · simp only[List.mem_singleton] at hp;subst hp;unfold lexlt;dsimp only;omega
theorem pairB_mk {cls:List (List Opt)} {R:Int} {tab:List Int} {i k u:Nat} (hu:(u:Int)<R) (hik:i<k) (hk:k<cls.length) (ht:tab.length=(cls.getD i default).length * (cls.getD k default).length) (hc:∀ x∈tab,0≤x∧(0<x→priceB x=true)) :
    pairB ⟨cls,[],[],R⟩ ⟨i,k,u,tab⟩=true:=by
  unfold pairB ruleB
  simp only[Bool.and_eq_true,decide_eq_true_eq,Bool.not_eq_true',Int.toNat_natCast,List.any_eq_false]
  refine⟨⟨⟨by omega,hu⟩,by omega,by omega,by omega,?_⟩,fun x hx=>?_⟩
  · rw[ht];simp
  · unfold badN
    have:=hc x hx
    by_cases h0:x=0
    · subst h0;decide
    · rw[this.2 (by omega)];simp
structure LInv (cls:List (List Opt)) (R:Int) (l:List Ld) (i k:Nat):Prop where
  ok:ldL ⟨cls,[],[],R⟩ none l=true
  lt:∀ x∈l,x.cls<i∨(x.cls=i∧x.opt<k)
  len:l.length≤24 * i+k
theorem LInv.mono {cls:List (List Opt)} {R:Int} {l:List Ld} {i k i' k':Nat} (h:LInv cls R l i k) (hl:i<i'∨(i=i'∧k≤k')) (hs:24 * i+k≤24 * i'+k'):LInv cls R l i' k' :=
  ⟨h.ok,fun p hp=>by have:=h.lt p hp;omega,by have:=h.len;omega⟩
theorem LInv.app {cls:List (List Opt)} {R:Int} {l:List Ld} {i k:Nat} (h:LInv cls R l i k) {w:Int} (hi:i<cls.length) (hk:k<(cls.getD i default).length) (hw:1≤w∧w≤1000):LInv cls R (l++[⟨i,k,w⟩]) i (k+1):=by
  refine⟨ldL_app h.ok (optB_iff.2 ⟨by dsimp only;omega,by dsimp only;omega,by dsimp only;omega,by simp;exact hk⟩) hw (fun x hx=>?_) (by simp),fun p hp=>?_,by have:=h.len;simp;omega⟩
  · have:=h.lt x hx
    rw[ldOrd_lt];dsimp only;omega
  · rcases List.mem_append.1 hp with hp | hp
    · have:=h.lt p hp;omega
    · simp only[List.mem_singleton] at hp;subst hp;dsimp only;omega
theorem opt_default_ch:(default:Opt).ch=[]:=rfl
theorem planC_ok {m:Mdl} (hm:VM m):∀ (plan:List Int) (i:Nat) (out:List Int),OutOK m.rules out→OutOK m.rules (planC m i plan out)
  | [],_,_,h=>h
  | o::r,i,out,h=>by
    rw[planC]
    refine planC_ok hm r (i+1) _ ?_
    split
    · exact h
    · refine chargesL_ok h fun c hc=>?_
      rcases Nat.lt_or_ge i m.cls.length with hi | hi
      · have hl:=getD_mem (d:=(default:List Opt)) hi
        generalize m.cls.getD i default=l at *
        rcases Nat.lt_or_ge o.toNat l.length with ho | ho
        · exact (chL_mem (hm.chs l hl _ (getD_mem ho)) c hc).2
        · rw[show l.getD o.toNat default=default by rw[List.getD_eq_getElem?_getD,List.getElem?_eq_none ho];rfl] at hc
          exact absurd hc (by rw[opt_default_ch];simp)
      · rw[show m.cls.getD i default=[] by rw[List.getD_eq_getElem?_getD,List.getElem?_eq_none hi];rfl] at hc
        exact absurd hc (by rw[List.getD_nil,opt_default_ch];simp)
theorem pairC_ok {m:Mdl} {plan:List Int}:∀ (l:List Pr) (out:List Int),(∀ p∈l,pairB m p=true)→OutOK m.rules out→OutOK m.rules (pairC m plan l out)
  | [],_,_,h=>h
  | p::r,out,hp,h=>by
    rw[pairC]
    refine pairC_ok r _ (fun q hq=>hp q (by simp[hq])) ?_
    split
    · exact h.add (entry_in (hp p (by simp)) _ _)
    · exact h
theorem countC_ok {m:Mdl} {plan:List Int}:∀ (l:List Ct) (out:List Int),(∀ c∈l,ctB m c=true)→OutOK m.rules out→OutOK m.rules (countC plan l out)
  | [],_,_,h=>h
  | c::r,out,hp,h=>by
    rw[countC]
    exact countC_ok r _ (fun q hq=>hp q (by simp[hq])) (h.add (excV_in (price_in (ctB_iff (hp c (by simp))).2.2.1)))
theorem rulesV_ok {m:Mdl} (hm:VM m) (plan:List Int):OutOK m.rules (rulesV m plan) :=
  countC_ok _ _ hm.ct (pairC_ok _ _ (prsL_mem hm.pr) (planC_ok hm _ _ _ (OutOK.rep hm.rul.1)))
def sumL:List Int→Int
  | []=>0
  | x::r=>x+sumL r
theorem sumL_nonneg:∀ {l:List Int},(∀ x∈l,In41 x)→0≤sumL l∧sumL l≤1099511627776 * l.length
  | [],_=>by simp[sumL]
  | x::r,h=>by
    have:=sumL_nonneg fun y hy=>h y (List.mem_cons_of_mem x hy)
    have:=h x (by simp)
    unfold In41 at this
    simp only[sumL,List.length_cons];omega
theorem totalL_sum:∀ {l:List Int} {n:Int},(∀ x∈l,In41 x)→In41 n→totalL l n=min (n+sumL l) 1099511627776
  | [],n,_,hn=>by unfold In41 at hn;simp only[totalL,sumL];omega
  | x::r,n,h,hn=>by
    have hx:=h x (by simp)
    have hr:∀ y∈r,In41 y:=fun y hy=>h y (by simp[hy])
    rw[totalL,totalL_sum hr (addC_in hn hx)]
    have:=sumL_nonneg hr
    unfold In41 at hx hn
    simp only[addC,sumL];omega
theorem sumL_mem:∀ {l:List Int},(∀ x∈l,In41 x)→∀ x∈l,x≤sumL l
  | [],_,x,hx=>by simp at hx
  | y::r,h,x,hx=>by
    have hr:∀ z∈r,In41 z:=fun z hz=>h z (by simp[hz])
    have:=(sumL_nonneg hr).1
    have hy:=h y (by simp)
    unfold In41 at hy
    rcases List.mem_cons.1 hx with rfl | hx
    · simp only[sumL];omega
    · have:=sumL_mem hr x hx;simp only[sumL];omega
abbrev SC:=Int × Int
def scAdd (s:SC) (cost times:Int):SC:=if cost=1099511627776 then (s.1+times,s.2) else (s.1,s.2+cost * times)
def comV (m:Mdl) (plan:List Int):Int:=if validV m≠0 then validV m else if (!plannedV m plan || plan.contains (-1))=true then 17 else 0
structure FP (m:Mdl) (plan:List Int):Prop where
  len:plan.length=m.cls.length
  get:∀ j,j<plan.length→optB m (j:Nat) (plan.getD j 0)=true
theorem FP.pm {m:Mdl} {plan:List Int} (h:FP m plan):PM m plan:=⟨h.len,fun j hj=>.inr (h.get j hj)⟩
def SB (s:SC) (n:Nat):Prop:=0≤s.1∧s.1≤1048576 * n∧0≤s.2∧s.2≤1099511627776 * n
theorem SB.zero:SB (0,0) 0:=by unfold SB;decide
theorem SB.mono {s:SC} {n k:Nat} (h:SB s n) (hk:n≤k):SB s k:=by unfold SB at *;omega
def CostB (c:Int):Prop:=0≤c∧c≤1048576∨c=1099511627776
theorem cb_mul {c t:Int} (hc:0≤c∧c≤1048576) (ht:0≤t∧t≤1048576):0≤c * t∧c * t≤1099511627776 :=
  ⟨Int.mul_nonneg hc.1 ht.1,Int.le_trans (Int.mul_le_mul hc.2 ht.2 ht.1 (by omega)) (by decide)⟩
theorem SB.add {s:SC} {n:Nat} (h:SB s n) {c t:Int} (hc:CostB c) (ht:0≤t∧t≤1048576):SB (scAdd s c t) (n+1):=by
  unfold SB scAdd at *
  split
  · dsimp only;omega
  · have:=cb_mul (hc.resolve_right (by assumption)) ht
    dsimp only;omega
def wtV:List Ld→Int→Int→Int
  | [],_,_=>0
  | x::r,i,o=>if x.cls=i∧x.opt=o then x.wt else wtV r i o
def sumW (l:List Ld):Nat→List Int→Int
  | _,[]=>0
  | i,o::r=>wtV l i o+sumW l (i+1) r
theorem sumW_nil:∀ (plan:List Int) (i:Nat),sumW [] i plan=0
  | [],_=>rfl
  | o::r,i=>by rw[sumW,wtV,sumW_nil r];rfl
theorem sumW_cons (x:Ld) (l:List Ld):∀ (plan:List Int) (i:Nat),sumW (x::l) i plan=sumW l i plan+if (i:Int)≤x.cls∧x.cls<i+plan.length∧plan.getD (x.cls - i).toNat 0=x.opt then x.wt - wtV l x.cls x.opt else 0
  | [],i=>by rw[sumW,sumW,if_neg (by simp;omega)];rfl
  | o::r,i=>by
    rw[sumW,sumW,sumW_cons x l r (i+1),wtV]
    by_cases h:x.cls=i
    · rw[if_neg (c:=((i+1:Nat):Int)≤x.cls∧_) (by omega)]
      rw[show (x.cls - i).toNat=0 by omega,List.getD_cons_zero,List.length_cons]
      by_cases ho:x.opt=o
      · rw[if_pos ⟨h,ho⟩,if_pos ⟨by omega,by omega,ho.symm⟩,h,ho];omega
      · rw[if_neg (fun h'=>ho h'.2),if_neg (fun h'=>ho h'.2.2.symm)];omega
    · rw[if_neg (c:=x.cls=i∧x.opt=o) (fun h'=>h h'.1)]
      have e:((i+1:Nat):Int)≤x.cls∧x.cls<(i+1:Nat)+r.length∧r.getD (x.cls - (i+1:Nat)).toNat 0=x.opt↔(i:Int)≤x.cls∧x.cls<i+(o::r).length∧(o::r).getD (x.cls - i).toNat 0=x.opt:=by
        rw[List.length_cons]
        by_cases hlt:(i:Int)<x.cls
        · rw[show (x.cls - i).toNat=(x.cls - (i+1:Nat)).toNat+1 by omega,List.getD_cons_succ]
          constructor
          · rintro ⟨a,b,c⟩;exact⟨by omega,by omega,c⟩
          · rintro ⟨a,b,c⟩;exact⟨by omega,by omega,c⟩
        · constructor
          · rintro ⟨a,b,c⟩;omega
          · rintro ⟨a,b,c⟩;omega
      simp only[e]
      omega
theorem wtV_none:∀ (l:List Ld) (i o:Int),(∀ y∈l,¬ (y.cls=i∧y.opt=o))→wtV l i o=0
  | [],_,_,_=>rfl
  | x::r,i,o,h=>by rw[wtV,if_neg (h x (by simp)),wtV_none r i o fun y hy=>h y (by simp[hy])]
theorem ldL_gt {m:Mdl}:∀ {l:List Ld} {q:Ld},ldL m (some q) l=true→∀ y∈l,q.cls<y.cls∨(q.cls=y.cls∧q.opt<y.opt)
  | [],_,_,y,hy=>by simp at hy
  | x::r,q,h,y,hy=>by
    rw[ldL] at h
    simp only[Bool.and_eq_true,decide_eq_true_eq] at h
    have h1:=ldOrd_lt.1 h.1.2
    rcases List.mem_cons.1 hy with rfl | hy
    · exact h1
    · have:=ldL_gt h.2 y hy;omega
theorem loadS_sumW {m:Mdl} {plan:List Int} (hp:plan.length=m.cls.length):∀ {l:List Ld} {q:Option Ld} (n:Int),ldL m q l=true→loadS plan l n=n+sumW l 0 plan
  | [],_,n,_=>by rw[loadS,sumW_nil];omega
  | x::r,q,n,h=>by
    have hr:ldL m (some x) r=true:=by
      rw[ldL.eq_def] at h
      simp only[Bool.and_eq_true] at h
      exact h.2
    have hx:=(ldL_mem h x (by simp)).1
    obtain ⟨a,b,c,d⟩:=optB_iff.1 hx
    rw[loadS,loadS_sumW hp _ hr,sumW_cons,wtV_none r x.cls x.opt (fun y hy he=>by have:=ldL_gt hr y hy;omega)]
    rw[show (x.cls - ((0:Nat):Int)).toNat=x.cls.toNat by simp]
    by_cases e:plan.getD x.cls.toNat 0=x.opt
    · rw[if_pos e,if_pos ⟨by omega,by omega,e⟩];omega
    · rw[if_neg e,if_neg (fun h'=>e h'.2.2)];omega
def cplL (m:Mdl):Nat→List Int→Bool
  | _,[]=>true
  | i,o::r=>optB m i o && cplL m (i+1) r
theorem cplL_eq {m:Mdl}:∀ (plan:List Int) (i:Nat),cplL m i plan=(planL m i plan && !plan.contains (-1))
  | [],_=>rfl
  | o::r,i=>by
    rw[cplL,planL,cplL_eq r (i+1),List.contains_cons]
    by_cases h:o = -1
    · subst h
      have:optB m i (-1)=false:=by
        cases hb:optB m i (-1) with
        | false=>rfl
        | true=>have:=optB_iff.1 hb;omega
      simp[this]
    · have h2:((-1:Int) == o)=false:=by simpa using fun e=>h e.symm
      rw[h2,decide_eq_false h,Bool.false_or,Bool.false_or]
      cases optB m i o<;>simp
theorem comV_eq (m:Mdl) (plan:List Int):comV m plan=if validV m≠0 then validV m else if plan.length≠m.cls.length then 17 else if cplL m 0 plan=false then 17 else 0:=by
  unfold comV plannedV
  split
  · rfl
  · by_cases h:plan.length≠m.cls.length
    · simp[h]
    · rw[if_neg h,if_neg h,cplL_eq]
      cases planL m 0 plan<;>cases plan.contains (-1)<;>rfl
theorem sumL_set:∀ (l:List Int) (i:Nat) (x:Int),i<l.length→sumL (l.set i x)=sumL l - l.getD i 0+x
  | [],i,x,h=>by simp at h
  | y::r,0,x,_=>by simp only[List.set_cons_zero,sumL,List.getD_cons_zero];omega
  | y::r,i+1,x,h=>by
    have:=sumL_set r i x (by simpa using h)
    simp only[List.set_cons_succ,sumL,List.getD_cons_succ];omega
structure Rel (R:Int) (out:List Int) (s:SC) (n:Nat):Prop where
  ok:OutOK R out
  b0:0≤s.1
  c0:0≤s.2∧s.2≤1048576 * n
  eq:s.1=0→sumL out=s.2
  ff:0<s.1→1099511627776∈out
theorem Rel.mono {R:Int} {out:List Int} {s:SC} {n k:Nat} (h:Rel R out s n) (hk:n≤k):Rel R out s k :=
  ⟨h.ok,h.b0,by have:=h.c0;omega,h.eq,h.ff⟩
theorem Rel.add {R:Int} {out:List Int} {s:SC} {n k:Nat} (h:Rel R out s n) {r d c t:Int} (hr:0≤r∧r<R) (ht:0≤t)
    (hc:(c=1099511627776∧d=if 0<t then 1099511627776 else 0)∨(c≠1099511627776∧d=c * t∧0≤d∧d≤1048576 * k)) (hb:n+k<1048576) :
    Rel R (addAt out r d) (scAdd s c t) (n+k):=by
  have hin:In41 d:=by
    unfold In41
    rcases hc with ⟨_,h⟩ | ⟨_,_,h1,h2⟩
    · rw[h];split<;>omega
    · omega
  have hlen:=h.ok.1
  have hi:r.toNat<out.length:=by omega
  have hg:=h.ok.get r.toNat
  have hmem:=getD_mem (d:=(0:Int)) hi
  have hs:=sumL_mem h.ok.2 _ hmem
  have hset:=sumL_set out r.toNat (addC (out.getD r.toNat 0) d) hi
  have hc0:=h.c0
  have hb0:=h.b0
  have hself:addC (out.getD r.toNat 0) d∈addAt out r d:=by
    unfold addAt
    have:(out.set r.toNat (addC (out.getD r.toNat 0) d)).getD r.toNat 0=addC (out.getD r.toNat 0) d:=by
      rw[List.getD_eq_getElem?_getD,List.getElem?_set_self hi];rfl
    have hm':=getD_mem (l:=out.set r.toNat (addC (out.getD r.toNat 0) d)) (i:=r.toNat) (d:=0) (by simpa using hi)
    rwa [this] at hm'
  have hstay:1099511627776∈out→1099511627776∈addAt out r d:=by
    intro hm
    obtain ⟨j,hj,hje⟩:=List.mem_iff_getElem.1 hm
    by_cases hjr:r.toNat=j
    · subst hjr
      have:out.getD r.toNat 0=1099511627776:=by rw[List.getD_eq_getElem?_getD,List.getElem?_eq_getElem hj];exact hje
      rw[this] at hself
      have e:addC 1099511627776 d=1099511627776:=by unfold In41 at hin;unfold addC;omega
      rwa [e] at hself
    · have:(addAt out r d).getD j 0=1099511627776:=by
        unfold addAt
        rw[List.getD_eq_getElem?_getD,List.getElem?_set_ne hjr,List.getElem?_eq_getElem hj];exact hje
      have hm':=getD_mem (l:=addAt out r d) (i:=j) (d:=0) (by unfold addAt;simpa using hj)
      rwa [this] at hm'
  unfold In41 at hg hin
  rcases hc with ⟨hcF,hd⟩ | ⟨hcF,hd,hd0,hdk⟩
  · unfold scAdd
    rw[if_pos hcF]
    refine⟨h.ok.add (by unfold In41;exact hin),by dsimp only;omega,by dsimp only;omega,fun hz=>?_,fun hz=>?_⟩
    · dsimp only at hz ⊢
      have:d=0:=by rw[hd,if_neg (by omega)]
      rw[← h.eq (by omega)]
      unfold addAt
      rw[hset]
      unfold addC
      omega
    · dsimp only at hz
      by_cases htz:0<t
      · have:addC (out.getD r.toNat 0) d=1099511627776:=by rw[hd,if_pos htz];unfold addC;omega
        rwa [this] at hself
      · exact hstay (h.ff (by omega))
  · unfold scAdd
    rw[if_neg hcF,← hd]
    refine⟨h.ok.add (by unfold In41;exact hin),by dsimp only;omega,by dsimp only;omega,fun hz=>?_,fun hz=>?_⟩
    · dsimp only at hz ⊢
      have he:=h.eq hz
      unfold addAt
      rw[hset]
      unfold addC
      omega
    · exact hstay (h.ff hz)
theorem planL_of {m:Mdl}:∀ (plan:List Int) (i:Nat),(∀ j,j<plan.length→plan.getD j 0 = -1∨optB m ((i+j:Nat):Int) (plan.getD j 0)=true)→planL m i plan=true
  | [],_,_=>rfl
  | o::r,i,h=>by
    rw[planL,Bool.and_eq_true,Bool.or_eq_true,decide_eq_true_eq]
    refine⟨by simpa using h 0 (by simp),planL_of r (i+1) fun j hj=>?_⟩
    have:=h (j+1) (by simpa using hj)
    rwa [List.getD_cons_succ,show i+(j+1)=i+1+j by omega] at this
theorem pm_planned {m:Mdl} {plan:List Int} (h:PM m plan):plannedV m plan=true:=by
  rw[plannedV,if_neg (by rw[h.len];simp)]
  exact planL_of plan 0 fun j hj=>by rw[Nat.zero_add];exact h.get j hj
theorem costT_ok {m:Mdl} {plan:List Int} (hm:VM m) (hp:PM m plan):costT m plan=(totalL (rulesV m plan) 0,rulesV m plan,0):=by
  rw[costT,if_neg (by rw[valid_iff.2 hm];simp),if_neg (by rw[pm_planned hp];simp)]
  rfl
theorem fp_com {m:Mdl} {plan:List Int} (hm:VM m) (hp:FP m plan):comV m plan=0:=by
  unfold comV
  rw[if_neg (by rw[valid_iff.2 hm];simp),pm_planned hp.pm,if_neg]
  simp only[Bool.not_true,Bool.false_or,Bool.not_eq_true]
  cases h:plan.contains (-1) with
  | false=>rfl
  | true =>
    obtain ⟨j,hj,e⟩:=List.mem_iff_getElem.1 (List.contains_iff_mem.1 h)
    have:=optB_iff.1 (hp.get j hj)
    rw[List.getD_eq_getElem?_getD,List.getElem?_eq_getElem hj] at this
    simp only[Option.getD_some] at this
    omega
end T

