import Derived.Test.YtmhloinjpcabcaaGreatX09
set_option linter.unusedVariables false
set_option linter.unusedSimpArgs false
set_option linter.unnecessarySimpa false
set_option linter.unusedSectionVars false
set_option maxHeartbeats 64000000
set_option maxRecDepth 20000
open Go Go.Am
namespace T
theorem Rc:type_of% @rows_length ∧type_of% @rows_getD ∧type_of% @rows_get ∧type_of% @rows_take ∧type_of% @rows_app ∧type_of% @rows_scal ∧type_of% @rows_ren  :=
  ⟨@rows_length ,@rows_getD ,@rows_get ,@rows_take ,@rows_app ,@rows_scal ,@rows_ren ⟩
def In64 (x:Int):Prop:=-9223372036854775808≤x∧x≤9223372036854775807
def modI (n m:Int):Int:=if m<1 then 0 else n % m
theorem modI_range (n m:Int) (hm:0<m):0≤modI n m∧modI n m<m:=by
  unfold modI
  rw[if_neg (by omega)]
  exact⟨Int.emod_nonneg _ (by omega),Int.emod_lt_of_pos _ (by omega)⟩
theorem tmod_cases (n m:Int) (hm:0<m):(n.tmod m<0→n % m=n.tmod m+m)∧(0≤n.tmod m→n % m=n.tmod m)∧-m<n.tmod m∧n.tmod m<m:=by
  have h1:=Int.emod_nonneg n (show m≠0 by omega)
  have h2:=Int.emod_lt_of_pos n hm
  rcases Int.lt_or_le n 0 with hn | hn
  · have h3:n.tmod m = -((-n) % m):=by
      have:=Int.neg_tmod (a:=-n) (b:=m)
      rw[Int.neg_neg] at this
      rw[this,Int.tmod_eq_emod_of_nonneg (by omega)]
    have h4:=Int.emod_nonneg (-n) (show m≠0 by omega)
    have h5:=Int.emod_lt_of_pos (-n) hm
    have h6:=Int.mul_ediv_add_emod n m
    have h7:=Int.mul_ediv_add_emod (-n) m
    have key:(n % m=0∧(-n) % m=0)∨n % m=m - (-n) % m:=by
      by_cases hz:(-n) % m=0
      · left
        have hd:m ∣ -n:=Int.dvd_of_emod_eq_zero hz
        have hd':m ∣ n:=(Int.dvd_neg).1 hd
        exact⟨Int.emod_eq_zero_of_dvd hd',hz⟩
      · right
        have:n=m * (-((-n) / m) - 1)+(m - (-n) % m):=by
          have : -n=m * ((-n) / m)+(-n) % m:=h7.symm
          rw[Int.mul_sub,Int.mul_neg]
          omega
        rw[this,Int.mul_add_emod_self_left]
        rw[← this]
        exact Int.emod_eq_of_lt (by omega) (by omega)
    rw[h3]
    refine⟨?_,?_,?_,?_⟩<;>omega
  · rw[Int.tmod_eq_emod_of_nonneg hn]
    refine⟨?_,?_,?_,?_⟩<;>omega
def nextV (L:List Int) (at':Nat) (n:Int):Int:=if at' ≥ L.length then 0 else modI (L.getD at' 0) n
def nextA (L:List Int) (at':Nat):Nat:=if at' ≥ L.length then at' else at'+1
theorem nextA_le {L:List Int} {k:Nat} (h:k≤L.length):nextA L k≤L.length:=by unfold nextA;split<;>omega
theorem nextV_range {L:List Int} {k:Nat} {n:Int} (h:0<n):0≤nextV L k n∧nextV L k n<n:=by
  unfold nextV
  split
  · omega
  · exact modI_range _ _ h
def oneV (L:List Int) (k:Nat) (n:Int):Bool:=decide (nextV L k n=n - 1)
theorem getD_mem {α:Type} {l:List α} {i:Nat} {d:α} (h:i<l.length):l.getD i d∈l:=by
  rw[List.getD_eq_getElem?_getD,List.getElem?_eq_getElem h]
  exact List.getElem_mem h
theorem tup3 {σ:St} {kp:Nat→Prop} {ρ:Nat→Nat} {snap:Bool} {a b c d e f:AV} (h:ArgR σ kp ρ snap a d) (k:ArgR σ kp ρ snap b e) (l:ArgR σ kp ρ snap c f):ArgR σ kp ρ snap (.tup [a,b,c]) (.tup [d,e,f]) :=
  .tup _ _ rfl (ArgsR.spec (R:=ArgR σ kp ρ snap) (cs:=[a,b,c]) (ds:=[d,e,f]) ⟨h,k,l,trivial⟩).2
def addC (a b:Int):Int:=min (a+b) 1099511627776
def priceB (n:Int):Bool:=decide ((1≤n∧n≤1048576)∨n=1099511627776)
def ruleB (R n:Int):Bool:=decide (0≤n∧n<R)
def optB (m:Mdl) (c o:Int):Bool:=decide (0≤c∧c<m.cls.length∧0≤o∧o<(m.cls.getD c.toNat default).length)
def cmp3 (a b:Int):Int:=if a<b then -1 else if b<a then 1 else 0
def orL:List Int→Int
  | []=>0
  | x::r=>if x≠0 then x else orL r
def excV (most pen sum:Int):Int:=if sum≤most then 0 else min ((sum - most) * pen) 1099511627776
def timesV (n c:Int):Int:=if n≤0 then 0 else if 1099511627776≤c then 1099511627776 else min (n * c) 1099511627776
def costV (L:List Int) (k:Nat):Int:=if nextV L k 6<3 then 0 else if nextV L k 6=3 then 1099511627776 else 1+nextV L (nextA L k) 20
def costA (L:List Int) (k:Nat):Nat:=if nextV L k 6≤3 then nextA L k else nextA L (nextA L k)
def prevAt {α:Type} [Inhabited α] (l:List α) (k:Nat):Option α:=if k=0 then none else some (l.getD (k - 1) default)
def chL (R:Int):Option (Int × Int)→List (Int × Int)→Bool
  | _,[]=>true
  | q,c::r=>(ruleB R c.1 && priceB c.2 && (match q with | none=>true | some q=>decide (q.1<c.1))) && chL R (some c) r
def ordV (a b:Pr):Int:=orL [cmp3 a.rule b.rule,cmp3 a.fst b.fst,cmp3 a.snd b.snd]
def badN (n:Int):Bool:=decide (n≠0) && !priceB n
def pairB (m:Mdl) (p:Pr):Bool:=ruleB m.rules p.rule && decide (0≤p.fst∧p.fst<p.snd∧p.snd<m.cls.length∧(p.tab.length:Int)=(m.cls.getD p.fst.toNat default).length * (m.cls.getD p.snd.toNat default).length) && !p.tab.any badN
def prsL (m:Mdl):Option Pr→List Pr→Bool
  | _,[]=>true
  | q,p::r=>(pairB m p && (match q with | none=>true | some q=>decide (ordV q p<0))) && prsL m (some p) r
def ldOrd (a b:Ld):Int:=orL [cmp3 a.cls b.cls,cmp3 a.opt b.opt]
def ldL (m:Mdl):Option Ld→List Ld→Bool
  | _,[]=>true
  | q,x::r=>(optB m x.cls x.opt && decide (1≤x.wt∧x.wt≤1000) && (match q with | none=>true | some q=>decide (ldOrd q x<0))) && ldL m (some x) r
def ctB (m:Mdl) (c:Ct):Bool:=ruleB m.rules c.rule && decide (0≤c.most∧c.most≤1048576) && priceB c.pen && ldL m none c.loads
def largeB (m:Mdl):Bool:=decide (24<m.cls.length∨m.cls.any (fun l=>decide (24<l.length))=true∨4000<m.prs.length∨800<m.cts.length∨m.rules<0∨56<m.rules)
def validV (m:Mdl):Int:=if largeB m=true then 2 else if (m.cls.any fun l=>l.any fun o=>!chL m.rules none o.ch)=true then 1 else if prsL m none m.prs=false then 1 else if (m.cts.any fun c=>!ctB m c)=true then 1 else 0
def planL (m:Mdl):Nat→List Int→Bool
  | _,[]=>true
  | i,o::r=>(decide (o = -1) || optB m i o) && planL m (i+1) r
def plannedV (m:Mdl) (plan:List Int):Bool:=if plan.length≠m.cls.length then false else planL m 0 plan
theorem prevAt_succ {α:Type} [Inhabited α] (l:List α) (k:Nat):prevAt l (k+1)=some (l.getD k default):=by simp[prevAt]
theorem chL_at {R:Int} {l r:List (Int × Int)} {k:Nat} {c:Int × Int}:chL R (prevAt l k) (c::r)=((ruleB R c.1 && priceB c.2 && (decide (k=0) || decide ((l.getD (k - 1) default).1<c.1))) && chL R (some c) r):=by
  by_cases h:k=0<;>simp[prevAt,h,chL]
theorem prsL_at {m:Mdl} {l r:List Pr} {k:Nat} {p:Pr}:prsL m (prevAt l k) (p::r)=((pairB m p && (decide (k=0) || decide (ordV (l.getD (k - 1) default) p<0))) && prsL m (some p) r):=by
  by_cases h:k=0<;>simp[prevAt,h,prsL]
theorem ldL_at {m:Mdl} {l r:List Ld} {k:Nat} {x:Ld}:ldL m (prevAt l k) (x::r)=((optB m x.cls x.opt && decide (1≤x.wt∧x.wt≤1000) && (decide (k=0) || decide (ldOrd (l.getD (k - 1) default) x<0))) && ldL m (some x) r):=by
  by_cases h:k=0<;>simp[prevAt,h,ldL]
structure MB (m:Mdl):Prop where
  cls:m.cls.length<9223372036854775808
  opt:∀ l∈m.cls,l.length<9223372036854775808
  ch:∀ l∈m.cls,∀ o∈l,o.ch.length<9223372036854775808
  prs:m.prs.length<9223372036854775808
  tab:∀ p∈m.prs,p.tab.length<9223372036854775808
  cts:m.cts.length<9223372036854775808
  lds:∀ c∈m.cts,c.loads.length<9223372036854775808
def addAt (out:List Int) (r c:Int):List Int:=out.set r.toNat (addC (out.getD r.toNat 0) c)
def chargesL:List (Int × Int)→List Int→List Int
  | [],out=>out
  | c::r,out=>chargesL r (addAt out c.1 c.2)
def planC (m:Mdl):Nat→List Int→List Int→List Int
  | _,[],out=>out
  | i,o::r,out=>planC m (i+1) r (if o<0 then out else chargesL ((m.cls.getD i default).getD o.toNat default).ch out)
def entryV (m:Mdl) (p:Pr) (x y:Int):Int:=p.tab.getD (x * (m.cls.getD p.snd.toNat default).length+y).toNat 0
def pairC (m:Mdl) (plan:List Int):List Pr→List Int→List Int
  | [],out=>out
  | p::r,out=>pairC m plan r (if 0≤plan.getD p.fst.toNat 0∧0≤plan.getD p.snd.toNat 0 then addAt out p.rule (entryV m p (plan.getD p.fst.toNat 0) (plan.getD p.snd.toNat 0)) else out)
def loadS (plan:List Int):List Ld→Int→Int
  | [],n=>n
  | x::r,n=>loadS plan r (if plan.getD x.cls.toNat 0=x.opt then n+x.wt else n)
def countC (plan:List Int):List Ct→List Int→List Int
  | [],out=>out
  | c::r,out=>countC plan r (addAt out c.rule (excV c.most c.pen (loadS plan c.loads 0)))
def totalL:List Int→Int→Int
  | [],n=>n
  | x::r,n=>totalL r (addC n x)
def rulesV (m:Mdl) (plan:List Int):List Int:=countC plan m.cts (pairC m plan m.prs (planC m 0 plan (List.replicate m.rules.toNat 0)))
def costsV (m:Mdl) (plan:List Int):Int × List Int:=(totalL (rulesV m plan) 0,rulesV m plan)
def costT (m:Mdl) (plan:List Int):Int × List Int × Int :=
  if validV m≠0 then (0,[],validV m) else if plannedV m plan=false then (0,[],17) else ((costsV m plan).1,(costsV m plan).2,0)
def In41 (x:Int):Prop:=0≤x∧x≤1099511627776
theorem addC_in {a b:Int} (ha:In41 a) (hb:In41 b):In41 (addC a b):=by unfold In41 addC at *;omega
theorem price_in {n:Int} (h:priceB n=true):In41 n:=by unfold priceB at h;rw[decide_eq_true_eq] at h;unfold In41;omega
def OutOK (R:Int) (out:List Int):Prop:=(out.length:Int)=R∧∀ x∈out,In41 x
theorem OutOK.get {R:Int} {out:List Int} (h:OutOK R out) (i:Nat):In41 (out.getD i 0):=by
  rcases Nat.lt_or_ge i out.length with hi | hi
  · exact h.2 _ (getD_mem hi)
  · rw[List.getD_eq_getElem?_getD,List.getElem?_eq_none hi];unfold In41;decide
theorem OutOK.add {R:Int} {out:List Int} (h:OutOK R out) {r c:Int} (hc:In41 c):OutOK R (addAt out r c) :=
  ⟨by rw[addAt,List.length_set];exact h.1,fun x hx=>by
    rcases List.mem_or_eq_of_mem_set hx with h' | h'
    · exact h.2 x h'
    · rw[h'];exact addC_in (h.get _) hc⟩
theorem OutOK.rep {R:Int} (hR:0≤R):OutOK R (List.replicate R.toNat 0):=⟨by simp;omega,fun x hx=>by
  have:=List.eq_of_mem_replicate hx
  subst this;unfold In41;decide⟩
structure VM (m:Mdl):Prop where
  cls:m.cls.length≤24
  opt:∀ l∈m.cls,l.length≤24
  prs:m.prs.length≤4000
  cts:m.cts.length≤800
  rul:0≤m.rules∧m.rules≤56
  chs:∀ l∈m.cls,∀ o∈l,chL m.rules none o.ch=true
  pr:prsL m none m.prs=true
  ct:∀ c∈m.cts,ctB m c=true
theorem valid_iff {m:Mdl}:validV m=0↔VM m:=by
  unfold validV
  constructor
  · intro h
    split at h
    · omega
    split at h
    · omega
    split at h
    · omega
    split at h
    · omega
    rename_i h1 h2 h3 h4
    have h1':largeB m=false:=by simpa using h1
    rw[largeB,decide_eq_false_iff_not] at h1'
    have h5:∀ l∈m.cls,l.length≤24:=fun l hl=>by
      rcases Nat.lt_or_ge 24 l.length with h | h
      · exact absurd (.inr (.inl (List.any_eq_true.2 ⟨l,hl,by simpa using h⟩))) h1'
      · exact h
    refine⟨by omega,h5,by omega,by omega,by omega,fun l hl o ho=>?_,by simpa using h3,fun c hc=>?_⟩
    · cases hh:chL m.rules none o.ch with
      | true=>rfl
      | false=>exact absurd (List.any_eq_true.2 ⟨l,hl,List.any_eq_true.2 ⟨o,ho,by rw[hh];rfl⟩⟩) h2
    · cases hh:ctB m c with
      | true=>rfl
      | false=>exact absurd (List.any_eq_true.2 ⟨c,hc,by rw[hh];rfl⟩) h4
  · intro h
    have h0:largeB m=false:=by
      rw[largeB,decide_eq_false_iff_not]
      rintro (h' | h' | h' | h' | h' | h')
      · have:=h.cls;omega
      · obtain ⟨l,hl,h''⟩:=List.any_eq_true.1 h'
        have:=h.opt l hl
        simp only[decide_eq_true_eq] at h'';omega
      · have:=h.prs;omega
      · have:=h.cts;omega
      · have:=h.rul;omega
      · have:=h.rul;omega
    rw[if_neg (by rw[h0];simp),if_neg,if_neg (by rw[h.pr];simp),if_neg]
    · intro hh
      obtain ⟨c,hc,h'⟩:=List.any_eq_true.1 hh
      rw[h.ct c hc] at h';simp at h'
    · intro hh
      obtain ⟨l,hl,h'⟩:=List.any_eq_true.1 hh
      obtain ⟨o,ho,h''⟩:=List.any_eq_true.1 h'
      rw[h.chs l hl o ho] at h'';simp at h''
theorem chL_mem {R:Int}:∀ {l:List (Int × Int)} {q:Option (Int × Int)},chL R q l=true→∀ c∈l,ruleB R c.1=true∧priceB c.2=true
  | [],_,_,c,hc=>by simp at hc
  | x::r,q,h,c,hc=>by
    rw[chL.eq_def] at h
    simp only[Bool.and_eq_true] at h
    rcases List.mem_cons.1 hc with rfl | hc
    · exact h.1.1
    · exact chL_mem h.2 c hc
theorem chL_len {R:Int}:∀ {l:List (Int × Int)} {q:Int × Int},chL R (some q) l=true→l=[]∨q.1+l.length<R
  | [],_,_=>.inl rfl
  | x::r,q,h=>by
    right
    rw[chL] at h
    simp only[Bool.and_eq_true,decide_eq_true_eq,ruleB] at h
    rcases chL_len h.2 with rfl | h5
    · simp only[List.length_cons,List.length_nil];omega
    · simp only[List.length_cons];omega
theorem chL_len0 {R:Int} {l:List (Int × Int)} (hR:0≤R) (h:chL R none l=true):(l.length:Int)≤R:=by
  cases l with
  | nil=>simpa using hR
  | cons x r =>
    rw[chL] at h
    simp only[Bool.and_eq_true,decide_eq_true_eq,ruleB] at h
    rcases chL_len h.2 with rfl | h5
    · simp only[List.length_cons,List.length_nil];omega
    · simp only[List.length_cons];omega
theorem prsL_mem {m:Mdl}:∀ {l:List Pr} {q:Option Pr},prsL m q l=true→∀ p∈l,pairB m p=true
  | [],_,_,c,hc=>by simp at hc
  | x::r,q,h,c,hc=>by
    rw[prsL.eq_def] at h
    simp only[Bool.and_eq_true] at h
    rcases List.mem_cons.1 hc with rfl | hc
    · exact h.1.1
    · exact prsL_mem h.2 c hc
theorem optB_iff {m:Mdl} {c o:Int}:optB m c o=true↔0≤c∧c<m.cls.length∧0≤o∧o<(m.cls.getD c.toNat default).length:=by rw[optB,decide_eq_true_eq]
theorem optB_24 {m:Mdl} (h:VM m) {c o:Int} (hb:optB m c o=true):0≤c∧c<24∧0≤o∧o<24:=by
  obtain ⟨h1,h2,h3,h4⟩:=optB_iff.1 hb
  have:=h.cls
  have:=h.opt _ (getD_mem (l:=m.cls) (i:=c.toNat) (d:=default) (by omega))
  omega
theorem cmp3_cases (a b:Int):(a<b∧cmp3 a b = -1)∨(a=b∧cmp3 a b=0)∨(b<a∧cmp3 a b=1):=by
  unfold cmp3
  rcases Int.lt_trichotomy a b with h | h | h
  · left;exact⟨h,by rw[if_pos h]⟩
  · right;left;exact⟨h,by rw[if_neg (by omega),if_neg (by omega)]⟩
  · right;right;exact⟨h,by rw[if_neg (by omega),if_pos h]⟩
theorem ldOrd_lt {a b:Ld}:ldOrd a b<0↔a.cls<b.cls∨(a.cls=b.cls∧a.opt<b.opt):=by
  unfold ldOrd
  rcases cmp3_cases a.cls b.cls with ⟨h,e⟩ | ⟨h,e⟩ | ⟨h,e⟩<;>rcases cmp3_cases a.opt b.opt with ⟨h',e'⟩ | ⟨h',e'⟩ | ⟨h',e'⟩<;>simp[orL,e,e']<;>omega
theorem ordV_lt {a b:Pr}:ordV a b<0↔a.rule<b.rule∨(a.rule=b.rule∧(a.fst<b.fst∨(a.fst=b.fst∧a.snd<b.snd))):=by
  unfold ordV
  rcases cmp3_cases a.rule b.rule with ⟨h,e⟩ | ⟨h,e⟩ | ⟨h,e⟩<;>rcases cmp3_cases a.fst b.fst with ⟨h',e'⟩ | ⟨h',e'⟩ | ⟨h',e'⟩<;>rcases cmp3_cases a.snd b.snd with ⟨h2,e2⟩ | ⟨h2,e2⟩ | ⟨h2,e2⟩<;>simp[orL,e,e',e2]<;>omega
theorem ldL_len {m:Mdl} (hm:VM m):∀ {l:List Ld} {q:Ld},ldL m (some q) l=true→0≤q.cls∧0≤q.opt∧q.opt<24→l=[]∨q.cls * 24+q.opt+l.length<576
  | [],_,_,_=>.inl rfl
  | x::r,q,h,hq=>by
    right
    rw[ldL] at h
    simp only[Bool.and_eq_true,decide_eq_true_eq] at h
    obtain ⟨⟨⟨h1,h2⟩,h3⟩,h4⟩:=h
    obtain ⟨a,b,c,d⟩:=optB_24 hm h1
    have hlt:q.cls * 24+q.opt<x.cls * 24+x.opt:=by
      rcases ldOrd_lt.1 h3 with h | h<;>omega
    rcases ldL_len hm h4 ⟨a,c,d⟩ with rfl | h5
    · simp only[List.length_cons,List.length_nil];omega
    · simp only[List.length_cons];omega
theorem ldL_len0 {m:Mdl} (hm:VM m) {l:List Ld} (h:ldL m none l=true):l.length≤576:=by
  cases l with
  | nil=>simp
  | cons x r =>
    rw[ldL] at h
    simp only[Bool.and_eq_true,decide_eq_true_eq] at h
    obtain ⟨a,b,c,d⟩:=optB_24 hm h.1.1.1
    rcases ldL_len hm h.2 ⟨a,c,d⟩ with rfl | h5
    · simp
    · simp only[List.length_cons];omega
theorem ldL_mem {m:Mdl}:∀ {l:List Ld} {q:Option Ld},ldL m q l=true→∀ x∈l,optB m x.cls x.opt=true∧1≤x.wt∧x.wt≤1000
  | [],_,_,c,hc=>by simp at hc
  | x::r,q,h,c,hc=>by
    rw[ldL.eq_def] at h
    simp only[Bool.and_eq_true,decide_eq_true_eq] at h
    rcases List.mem_cons.1 hc with rfl | hc
    · exact⟨h.1.1.1,h.1.1.2⟩
    · exact ldL_mem h.2 c hc
theorem loadS_range {m:Mdl} {plan:List Int}:∀ {l:List Ld},(∀ x∈l,1≤x.wt∧x.wt≤1000)→∀ n,n≤loadS plan l n∧loadS plan l n≤n+1000 * l.length
  | [],_,n=>by simp[loadS]
  | x::r,h,n=>by
    have hx:=h x (by simp)
    rw[loadS]
    have:=loadS_range (m:=m) (plan:=plan) (l:=r) (fun y hy=>h y (by simp[hy])) (if plan.getD x.cls.toNat 0=x.opt then n+x.wt else n)
    simp only[List.length_cons]
    split at this<;>split<;>simp_all<;>omega
theorem excV_in {most pen sum:Int} (h:In41 pen):In41 (excV most pen sum):=by
  unfold excV In41 at *
  split
  · omega
  · have:0≤(sum - most) * pen:=Int.mul_nonneg (by omega) h.1
    omega
theorem chargesL_ok {R:Int}:∀ {l:List (Int × Int)} {out:List Int},OutOK R out→(∀ c∈l,priceB c.2=true)→OutOK R (chargesL l out)
  | [],_,h,_=>h
  | c::r,out,h,hc=>by rw[chargesL];exact chargesL_ok (h.add (price_in (hc c (by simp)))) fun x hx=>hc x (by simp[hx])
theorem planL_get {m:Mdl}:∀ {plan:List Int} {i:Nat},planL m i plan=true→∀ j,j<plan.length→plan.getD j 0 = -1∨optB m ((i+j:Nat):Int) (plan.getD j 0)=true
  | [],_,_,j,hj=>by simp at hj
  | o::r,i,h,j,hj=>by
    rw[planL] at h
    simp only[Bool.and_eq_true,Bool.or_eq_true,decide_eq_true_eq] at h
    cases j with
    | zero=>rw[List.getD_cons_zero];exact h.1
    | succ j =>
      rw[List.getD_cons_succ]
      have:=planL_get h.2 j (by simpa using hj)
      rwa [show i+1+j=i+(j+1) by omega] at this
structure PM (m:Mdl) (plan:List Int):Prop where
  len:plan.length=m.cls.length
  get:∀ j,j<plan.length→plan.getD j 0 = -1∨optB m (j:Nat) (plan.getD j 0)=true
theorem planned_pm {m:Mdl} {plan:List Int} (h:plannedV m plan=true):PM m plan:=by
  unfold plannedV at h
  split at h
  · simp at h
  · refine⟨by omega,fun j hj=>?_⟩
    have:=planL_get h j hj
    rwa [Nat.zero_add] at this
theorem pairB_iff {m:Mdl} {p:Pr} (h:pairB m p=true):(0≤p.rule∧p.rule<m.rules)∧0≤p.fst∧p.fst<p.snd∧p.snd<m.cls.length∧(p.tab.length:Int)=(m.cls.getD p.fst.toNat default).length * (m.cls.getD p.snd.toNat default).length:=by
  unfold pairB ruleB at h
  simp only[Bool.and_eq_true,decide_eq_true_eq] at h
  exact⟨h.1.1,h.1.2⟩
theorem entry_idx {x y a b:Int} (hx:0≤x∧x<a) (hy:0≤y∧y<b) (ha:a≤24) (hb:b≤24):0≤x * b∧x * b≤576∧x * b+y<a * b:=by
  have h1:0≤x * b:=Int.mul_nonneg hx.1 (by omega)
  have h2:x * b≤(a - 1) * b:=Int.mul_le_mul_of_nonneg_right (by omega) (by omega)
  have h3:(a - 1) * b=a * b - b:=by rw[Int.sub_mul,Int.one_mul]
  have h4:a * b≤24 * 24:=Int.mul_le_mul ha hb (by omega) (by omega)
  omega
theorem ctB_iff {m:Mdl} {c:Ct} (h:ctB m c=true):(0≤c.rule∧c.rule<m.rules)∧(0≤c.most∧c.most≤1048576)∧priceB c.pen=true∧ldL m none c.loads=true:=by
  unfold ctB ruleB at h
  simp only[Bool.and_eq_true,decide_eq_true_eq] at h
  exact⟨h.1.1.1,h.1.1.2,h.1.2,h.2⟩
theorem entry_in {m:Mdl} {p:Pr} (hp:pairB m p=true) (x y:Int):In41 (entryV m p x y):=by
  unfold entryV
  rcases Nat.lt_or_ge (x * (m.cls.getD p.snd.toNat default).length+y).toNat p.tab.length with h | h
  · unfold pairB at hp
    simp only[Bool.and_eq_true,Bool.not_eq_true',List.any_eq_false] at hp
    have:=hp.2 _ (getD_mem (d:=0) h)
    unfold badN at this
    simp only[Bool.and_eq_true,decide_eq_true_eq,Bool.not_eq_true',not_and,Bool.not_eq_false] at this
    generalize p.tab.getD (x * (m.cls.getD p.snd.toNat default).length+y).toNat 0=n at *
    by_cases h0:n=0
    · subst h0;unfold In41;decide
    · exact price_in (this h0)
  · rw[List.getD_eq_getElem?_getD,List.getElem?_eq_none h];unfold In41;decide
end T

