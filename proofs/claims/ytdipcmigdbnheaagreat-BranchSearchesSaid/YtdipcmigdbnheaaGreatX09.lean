import Derived.Test.YtdipcmigdbnheaaGreatX06
set_option linter.unusedVariables false
set_option linter.unusedSimpArgs false
set_option linter.unnecessarySimpa false
set_option linter.unusedSectionVars false
set_option maxHeartbeats 64000000
set_option maxRecDepth 20000
open List renaming getD_eq_getElem?_getD→ay,replicate→aW,getElem?_eq_none→dM,any_eq_true→kW,mem_cons→bW,length_cons→dI,length_nil→pj
open Nat renaming lt_or_ge→dG
open Bool renaming and_eq_true→a7,not_eq_true'→jh
open Int renaming mul_nonneg→pt
open Go Go.Am
namespace T
theorem Rc:type_of% @eP ∧type_of% @jL ∧type_of% @Ox ∧type_of% @Oy ∧type_of% @Il ∧type_of% @Im ∧type_of% @Ai  :=
  ⟨@eP ,@jL ,@Ox ,@Oy ,@Il ,@Im ,@Ai ⟩
def fH (x:Int):Prop:=-9223372036854775808≤x∧x≤9223372036854775807
def tQ (n m:Int):Int:=if m<1 then 0 else n % m
theorem adm (n m:Int) (hm:0<m):0≤tQ n m∧tQ n m<m:=by
  unfold tQ
  rw[if_neg (by omega)]
  exact⟨Int.emod_nonneg _ (by omega),Int.emod_lt_of_pos _ (by omega)⟩
theorem JD (n m:Int) (hm:0<m):(n.tmod m<0→n % m=n.tmod m+m)∧(0≤n.tmod m→n % m=n.tmod m)∧-m<n.tmod m∧n.tmod m<m:=by
  have h1:=Int.emod_nonneg n (show m≠0 by omega)
  have h2:=Int.emod_lt_of_pos n hm
  rcases Int.lt_or_le n 0 with hn | hn
  · have h3:n.tmod m = -((-n) % m):=by
      have:=Int.neg_tmod (a:=-n) (b:=m)
      rw[Int.neg_neg] at this
      rw[this,Int.tmod_eq_emod_of_nonneg (by omega)]
    have h4:=Int.emod_nonneg (-n) (show m≠0 by omega)
    have h5:=Int.emod_lt_of_pos (-n) hm
    have h6:=Int.mul_ediv_add_emod n m
    have h7:=Int.mul_ediv_add_emod (-n) m
    have key:(n % m=0∧(-n) % m=0)∨n % m=m - (-n) % m:=by
      by_cases hz:(-n) % m=0
      · left
        have hd:m ∣ -n:=Int.dvd_of_emod_eq_zero hz
        have ss:m ∣ n:=(Int.dvd_neg).1 hd
        exact⟨Int.emod_eq_zero_of_dvd ss,hz⟩
      · right
        have:n=m * (-((-n) / m) - 1)+(m - (-n) % m):=by
          have : -n=m * ((-n) / m)+(-n) % m:=h7.symm
          rw[Int.mul_sub,Int.mul_neg]
          omega
        rw[this,Int.mul_add_emod_self_left]
        rw[← this]
        exact Int.emod_eq_of_lt (by omega) (by omega)
    rw[h3]
    refine⟨?_,?_,?_,?_⟩<;>omega
  · rw[Int.tmod_eq_emod_of_nonneg hn]
    refine⟨?_,?_,?_,?_⟩<;>omega
def eH (L:List Int) (AY:Nat) (n:Int):Int:=if AY ≥ L.length then 0 else tQ (L.getD AY 0) n
def cN (L:List Int) (AY:Nat):Nat:=if AY ≥ L.length then AY else AY+1
theorem gP {L:List Int} {k:Nat} (h:k≤L.length):cN L k≤L.length:=by unfold cN;split<;>omega
theorem mQ {L:List Int} {k:Nat} {n:Int} (h:0<n):0≤eH L k n∧eH L k n<n:=by
  unfold eH
  split
  · omega
  · exact adm _ _ h
def AZ (L:List Int) (k:Nat) (n:Int):Bool:=decide (eH L k n=n - 1)
theorem az {α:Type} {l:List α} {i:Nat} {d:α} (h:i<l.length):l.getD i d∈l:=by
  rw[ay,List.getElem?_eq_getElem h]
  exact List.getElem_mem h
theorem tT {σ:St} {kp:Nat→Prop} {ρ:Nat→Nat} {snap:Bool} {a b c d e f:AV} (h:aO σ kp ρ snap a d) (k:aO σ kp ρ snap b e) (l:aO σ kp ρ snap c f):aO σ kp ρ snap (.bM [a,b,c]) (.bM [d,e,f]) :=
  .bM _ _ rfl (iK.spec (R:=aO σ kp ρ snap) (cs:=[a,b,c]) (ds:=[d,e,f]) ⟨h,k,l,trivial⟩).2
def cS (a b:Int):Int:=min (a+b) 1099511627776
def fK (n:Int):Bool:=decide ((1≤n∧n≤1048576)∨n=1099511627776)
def iP (R n:Int):Bool:=decide (0≤n∧n<R)
def ez (m:ae) (c o:Int):Bool:=decide (0≤c∧c<m.cls.length∧0≤o∧o<(m.cls.getD c.toNat default).length)
def jg (a b:Int):Int:=if a<b then -1 else if b<a then 1 else 0
def nB:List Int→Int
  | []=>0
  | x::r=>if x≠0 then x else nB r
def iZ (most bg sum:Int):Int:=if sum≤most then 0 else min ((sum - most) * bg) 1099511627776
def rp (n c:Int):Int:=if n≤0 then 0 else if 1099511627776≤c then 1099511627776 else min (n * c) 1099511627776
def oU (L:List Int) (k:Nat):Int:=if eH L k 6<3 then 0 else if eH L k 6=3 then 1099511627776 else 1+eH L (cN L k) 20
def uj (L:List Int) (k:Nat):Nat:=if eH L k 6≤3 then cN L k else cN L (cN L k)
def lq {α:Type} [Inhabited α] (l:List α) (k:Nat):Option α:=if k=0 then none else some (l.getD (k - 1) default)
def eA (R:Int):Option (Int × Int)→List (Int × Int)→Bool
  | _,[]=>true
  | q,c::r=>(iP R c.1 && fK c.2 && (match q with | none=>true | some q=>decide (q.1<c.1))) && eA R (some c) r
def nw (a b:Pr):Int:=nB [jg a.db b.db,jg a.fst b.fst,jg a.snd b.snd]
def n5 (n:Int):Bool:=decide (n≠0) && !fK n
def eG (m:ae) (p:Pr):Bool:=iP m.rules p.db && decide (0≤p.fst∧p.fst<p.snd∧p.snd<m.cls.length∧(p.aP.length:Int)=(m.cls.getD p.fst.toNat default).length * (m.cls.getD p.snd.toNat default).length) && !p.aP.any n5
def fQ (m:ae):Option Pr→List Pr→Bool
  | _,[]=>true
  | q,p::r=>(eG m p && (match q with | none=>true | some q=>decide (nw q p<0))) && fQ m (some p) r
def sO (a b:Ld):Int:=nB [jg a.cls b.cls,jg a.opt b.opt]
def eo (m:ae):Option Ld→List Ld→Bool
  | _,[]=>true
  | q,x::r=>(ez m x.cls x.opt && decide (1≤x.wt∧x.wt≤1000) && (match q with | none=>true | some q=>decide (sO q x<0))) && eo m (some x) r
def fP (m:ae) (c:Ct):Bool:=iP m.rules c.db && decide (0≤c.most∧c.most≤1048576) && fK c.bg && eo m none c.aA
def rC (m:ae):Bool:=decide (24<m.cls.length∨m.cls.any (fun l=>decide (24<l.length))=true∨4000<m.ah.length∨800<m.av.length∨m.rules<0∨56<m.rules)
def dW (m:ae):Int:=if rC m=true then 2 else if (m.cls.any fun l=>l.any fun o=>!eA m.rules none o.ch)=true then 1 else if fQ m none m.ah=false then 1 else if (m.av.any fun c=>!fP m c)=true then 1 else 0
def oR (m:ae):Nat→List Int→Bool
  | _,[]=>true
  | i,o::r=>(decide (o = -1) || ez m i o) && oR m (i+1) r
def oS (m:ae) (plan:List Int):Bool:=if plan.length≠m.cls.length then false else oR m 0 plan
theorem uu {α:Type} [Inhabited α] (l:List α) (k:Nat):lq l (k+1)=some (l.getD k default):=by simp[lq]
theorem Sv {R:Int} {l r:List (Int × Int)} {k:Nat} {c:Int × Int}:eA R (lq l k) (c::r)=((iP R c.1 && fK c.2 && (decide (k=0) || decide ((l.getD (k - 1) default).1<c.1))) && eA R (some c) r):=by
  by_cases h:k=0<;>simp[lq,h,eA]
theorem Sw {m:ae} {l r:List Pr} {k:Nat} {p:Pr}:fQ m (lq l k) (p::r)=((eG m p && (decide (k=0) || decide (nw (l.getD (k - 1) default) p<0))) && fQ m (some p) r):=by
  by_cases h:k=0<;>simp[lq,h,fQ]
theorem Sx {m:ae} {l r:List Ld} {k:Nat} {x:Ld}:eo m (lq l k) (x::r)=((ez m x.cls x.opt && decide (1≤x.wt∧x.wt≤1000) && (decide (k=0) || decide (sO (l.getD (k - 1) default) x<0))) && eo m (some x) r):=by
  by_cases h:k=0<;>simp[lq,h,eo]
structure MB (m:ae):Prop where
  cls:m.cls.length<9223372036854775808
  opt:∀ l∈m.cls,l.length<9223372036854775808
  ch:∀ l∈m.cls,∀ o∈l,o.ch.length<9223372036854775808
  ah:m.ah.length<9223372036854775808
  aP:∀ p∈m.ah,p.aP.length<9223372036854775808
  av:m.av.length<9223372036854775808
  lr:∀ c∈m.av,c.aA.length<9223372036854775808
def ed (out:List Int) (r c:Int):List Int:=out.set r.toNat (cS (out.getD r.toNat 0) c)
def nu:List (Int × Int)→List Int→List Int
  | [],out=>out
  | c::r,out=>nu r (ed out c.1 c.2)
def j8 (m:ae):Nat→List Int→List Int→List Int
  | _,[],out=>out
  | i,o::r,out=>j8 m (i+1) r (if o<0 then out else nu ((m.cls.getD i default).getD o.toNat default).ch out)
def jP (m:ae) (p:Pr) (x y:Int):Int:=p.aP.getD (x * (m.cls.getD p.snd.toNat default).length+y).toNat 0
def lM (m:ae) (plan:List Int):List Pr→List Int→List Int
  | [],out=>out
  | p::r,out=>lM m plan r (if 0≤plan.getD p.fst.toNat 0∧0≤plan.getD p.snd.toNat 0 then ed out p.db (jP m p (plan.getD p.fst.toNat 0) (plan.getD p.snd.toNat 0)) else out)
def dX (plan:List Int):List Ld→Int→Int
  | [],n=>n
  | x::r,n=>dX plan r (if plan.getD x.cls.toNat 0=x.opt then n+x.wt else n)
def lN (plan:List Int):List Ct→List Int→List Int
  | [],out=>out
  | c::r,out=>lN plan r (ed out c.db (iZ c.most c.bg (dX plan c.aA 0)))
def gY:List Int→Int→Int
  | [],n=>n
  | x::r,n=>gY r (cS n x)
def gZ (m:ae) (plan:List Int):List Int:=lN plan m.av (lM m plan m.ah (j8 m 0 plan (aW m.rules.toNat 0)))
def A0 (m:ae) (plan:List Int):Int × List Int:=(gY (gZ m plan) 0,gZ m plan)
def rn (m:ae) (plan:List Int):Int × List Int × Int :=
  if dW m≠0 then (0,[],dW m) else if oS m plan=false then (0,[],17) else ((A0 m plan).1,(A0 m plan).2,0)
def aS (x:Int):Prop:=0≤x∧x≤1099511627776
theorem oT {a b:Int} (ha:aS a) (hb:aS b):aS (cS a b):=by unfold aS cS at *;omega
theorem g7 {n:Int} (h:fK n=true):aS n:=by unfold fK at h;rw[decide_eq_true_eq] at h;unfold aS;omega
def fj (R:Int) (out:List Int):Prop:=(out.length:Int)=R∧∀ x∈out,aS x
theorem fj.get {R:Int} {out:List Int} (h:fj R out) (i:Nat):aS (out.getD i 0):=by
  rcases dG i out.length with hi | hi
  · exact h.2 _ (az hi)
  · rw[ay,dM hi];unfold aS;decide
theorem fj.add {R:Int} {out:List Int} (h:fj R out) {r c:Int} (hc:aS c):fj R (ed out r c) :=
  ⟨by rw[ed,List.length_set];exact h.1,fun x hx=>by
    rcases List.mem_or_eq_of_mem_set hx with h' | h'
    · exact h.2 x h'
    · rw[h'];exact oT (h.get _) hc⟩
theorem fj.rep {R:Int} (hR:0≤R):fj R (aW R.toNat 0):=⟨by simp;omega,fun x hx=>by
  have:=List.eq_of_mem_replicate hx
  subst this;unfold aS;decide⟩
structure VM (m:ae):Prop where
  cls:m.cls.length≤24
  opt:∀ l∈m.cls,l.length≤24
  ah:m.ah.length≤4000
  av:m.av.length≤800
  mP:0≤m.rules∧m.rules≤56
  mf:∀ l∈m.cls,∀ o∈l,eA m.rules none o.ch=true
  pr:fQ m none m.ah=true
  ct:∀ c∈m.av,fP m c=true
theorem iu {m:ae}:dW m=0↔VM m:=by
  unfold dW
  constructor
  · intro h
    split at h
    · omega
    split at h
    · omega
    split at h
    · omega
    split at h
    · omega
    rename_i h1 h2 h3 h4
    have HM:rC m=false:=by simpa using h1
    rw[rC,decide_eq_false_iff_not] at HM
    have h5:∀ l∈m.cls,l.length≤24:=fun l hl=>by
      rcases dG 24 l.length with h | h
      · exact absurd (.inr (.inl (kW.2 ⟨l,hl,by simpa using h⟩))) HM
      · exact h
    refine⟨by omega,h5,by omega,by omega,by omega,fun l hl o ho=>?_,by simpa using h3,fun c hc=>?_⟩
    · cases hh:eA m.rules none o.ch with
      | true=>rfl
      | false=>exact absurd (kW.2 ⟨l,hl,kW.2 ⟨o,ho,by rw[hh];rfl⟩⟩) h2
    · cases hh:fP m c with
      | true=>rfl
      | false=>exact absurd (kW.2 ⟨c,hc,by rw[hh];rfl⟩) h4
  · intro h
    have h0:rC m=false:=by
      rw[rC,decide_eq_false_iff_not]
      rintro (h' | h' | h' | h' | h' | h')
      · have:=h.cls;omega
      · obtain ⟨l,hl,FH⟩:=kW.1 h'
        have:=h.opt l hl
        simp only[decide_eq_true_eq] at FH;omega
      · have:=h.ah;omega
      · have:=h.av;omega
      · have:=h.mP;omega
      · have:=h.mP;omega
    rw[if_neg (by rw[h0];simp),if_neg,if_neg (by rw[h.pr];simp),if_neg]
    · intro hh
      obtain ⟨c,hc,h'⟩:=kW.1 hh
      rw[h.ct c hc] at h';simp at h'
    · intro hh
      obtain ⟨l,hl,h'⟩:=kW.1 hh
      obtain ⟨o,ho,FH⟩:=kW.1 h'
      rw[h.mf l hl o ho] at FH;simp at FH
theorem vv {R:Int}:∀ {l:List (Int × Int)} {q:Option (Int × Int)},eA R q l=true→∀ c∈l,iP R c.1=true∧fK c.2=true
  | [],_,_,c,hc=>by simp at hc
  | x::r,q,h,c,hc=>by
    rw[eA.eq_def] at h
    simp only[a7] at h
    rcases bW.1 hc with rfl | hc
    · exact h.1.1
    · exact vv h.2 c hc
theorem JE {R:Int}:∀ {l:List (Int × Int)} {q:Int × Int},eA R (some q) l=true→l=[]∨q.1+l.length<R
  | [],_,_=>.inl rfl
  | x::r,q,h=>by
    right
    rw[eA] at h
    simp only[a7,decide_eq_true_eq,iP] at h
    rcases JE h.2 with rfl | h5
    · simp only[dI,pj];omega
    · simp only[dI];omega
theorem AL {R:Int} {l:List (Int × Int)} (hR:0≤R) (h:eA R none l=true):(l.length:Int)≤R:=by
  cases l with
  | nil=>simpa using hR
  | cons x r =>
    rw[eA] at h
    simp only[a7,decide_eq_true_eq,iP] at h
    rcases JE h.2 with rfl | h5
    · simp only[dI,pj];omega
    · simp only[dI];omega
theorem fY {m:ae}:∀ {l:List Pr} {q:Option Pr},fQ m q l=true→∀ p∈l,eG m p=true
  | [],_,_,c,hc=>by simp at hc
  | x::r,q,h,c,hc=>by
    rw[fQ.eq_def] at h
    simp only[a7] at h
    rcases bW.1 hc with rfl | hc
    · exact h.1.1
    · exact fY h.2 c hc
theorem cV {m:ae} {c o:Int}:ez m c o=true↔0≤c∧c<m.cls.length∧0≤o∧o<(m.cls.getD c.toNat default).length:=by rw[ez,decide_eq_true_eq]
theorem Sy {m:ae} (h:VM m) {c o:Int} (hb:ez m c o=true):0≤c∧c<24∧0≤o∧o<24:=by
  obtain ⟨h1,h2,h3,h4⟩:=cV.1 hb
  have:=h.cls
  have:=h.opt _ (az (l:=m.cls) (i:=c.toNat) (d:=default) (by omega))
  omega
theorem CT (a b:Int):(a<b∧jg a b = -1)∨(a=b∧jg a b=0)∨(b<a∧jg a b=1):=by
  unfold jg
  rcases Int.lt_trichotomy a b with h | h | h
  · left;exact⟨h,by rw[if_pos h]⟩
  · right;left;exact⟨h,by rw[if_neg (by omega),if_neg (by omega)]⟩
  · right;right;exact⟨h,by rw[if_neg (by omega),if_pos h]⟩
theorem Fz {a b:Ld}:sO a b<0↔a.cls<b.cls∨(a.cls=b.cls∧a.opt<b.opt):=by
  unfold sO
  rcases CT a.cls b.cls with ⟨h,e⟩ | ⟨h,e⟩ | ⟨h,e⟩<;>rcases CT a.opt b.opt with ⟨h',e'⟩ | ⟨h',e'⟩ | ⟨h',e'⟩<;>simp[nB,e,e']<;>omega
theorem Jn {a b:Pr}:nw a b<0↔a.db<b.db∨(a.db=b.db∧(a.fst<b.fst∨(a.fst=b.fst∧a.snd<b.snd))):=by
  unfold nw
  rcases CT a.db b.db with ⟨h,e⟩ | ⟨h,e⟩ | ⟨h,e⟩<;>rcases CT a.fst b.fst with ⟨h',e'⟩ | ⟨h',e'⟩ | ⟨h',e'⟩<;>rcases CT a.snd b.snd with ⟨h2,e2⟩ | ⟨h2,e2⟩ | ⟨h2,e2⟩<;>simp[nB,e,e',e2]<;>omega
theorem Sz {m:ae} (hm:VM m):∀ {l:List Ld} {q:Ld},eo m (some q) l=true→0≤q.cls∧0≤q.opt∧q.opt<24→l=[]∨q.cls * 24+q.opt+l.length<576
  | [],_,_,_=>.inl rfl
  | x::r,q,h,hq=>by
    right
    rw[eo] at h
    simp only[a7,decide_eq_true_eq] at h
    obtain ⟨⟨⟨h1,h2⟩,h3⟩,h4⟩:=h
    obtain ⟨a,b,c,d⟩:=Sy hm h1
    have aT:q.cls * 24+q.opt<x.cls * 24+x.opt:=by
      rcases Fz.1 h3 with h | h<;>omega
    rcases Sz hm h4 ⟨a,c,d⟩ with rfl | h5
    · simp only[dI,pj];omega
    · simp only[dI];omega
theorem uq {m:ae} (hm:VM m) {l:List Ld} (h:eo m none l=true):l.length≤576:=by
  cases l with
  | nil=>simp
  | cons x r =>
    rw[eo] at h
    simp only[a7,decide_eq_true_eq] at h
    obtain ⟨a,b,c,d⟩:=Sy hm h.1.1.1
    rcases Sz hm h.2 ⟨a,c,d⟩ with rfl | h5
    · simp
    · simp only[dI];omega
theorem kF {m:ae}:∀ {l:List Ld} {q:Option Ld},eo m q l=true→∀ x∈l,ez m x.cls x.opt=true∧1≤x.wt∧x.wt≤1000
  | [],_,_,c,hc=>by simp at hc
  | x::r,q,h,c,hc=>by
    rw[eo.eq_def] at h
    simp only[a7,decide_eq_true_eq] at h
    rcases bW.1 hc with rfl | hc
    · exact⟨h.1.1.1,h.1.1.2⟩
    · exact kF h.2 c hc
theorem CU {m:ae} {plan:List Int}:∀ {l:List Ld},(∀ x∈l,1≤x.wt∧x.wt≤1000)→∀ n,n≤dX plan l n∧dX plan l n≤n+1000 * l.length
  | [],_,n=>by simp[dX]
  | x::r,h,n=>by
    have hx:=h x (by simp)
    rw[dX]
    have:=CU (m:=m) (plan:=plan) (l:=r) (fun y hy=>h y (by simp[hy])) (if plan.getD x.cls.toNat 0=x.opt then n+x.wt else n)
    simp only[dI]
    split at this<;>split<;>simp_all<;>omega
theorem wR {most bg sum:Int} (h:aS bg):aS (iZ most bg sum):=by
  unfold iZ aS at *
  split
  · omega
  · have:0≤(sum - most) * bg:=pt (by omega) h.1
    omega
theorem R5 {R:Int}:∀ {l:List (Int × Int)} {out:List Int},fj R out→(∀ c∈l,fK c.2=true)→fj R (nu l out)
  | [],_,h,_=>h
  | c::r,out,h,hc=>by rw[nu];exact R5 (h.add (g7 (hc c (by simp)))) fun x hx=>hc x (by simp[hx])
theorem SA {m:ae}:∀ {plan:List Int} {i:Nat},oR m i plan=true→∀ j,j<plan.length→plan.getD j 0 = -1∨ez m ((i+j:Nat):Int) (plan.getD j 0)=true
  | [],_,_,j,hj=>by simp at hj
  | o::r,i,h,j,hj=>by
    rw[oR] at h
    simp only[a7,Bool.or_eq_true,decide_eq_true_eq] at h
    cases j with
    | zero=>rw[List.getD_cons_zero];exact h.1
    | succ j =>
      rw[List.getD_cons_succ]
      have:=SA h.2 j (by simpa using hj)
      rwa [show i+1+j=i+(j+1) by omega] at this
structure PM (m:ae) (plan:List Int):Prop where
  len:plan.length=m.cls.length
  get:∀ j,j<plan.length→plan.getD j 0 = -1∨ez m (j:Nat) (plan.getD j 0)=true
theorem JC {m:ae} {plan:List Int} (h:oS m plan=true):PM m plan:=by
  unfold oS at h
  split at h
  · simp at h
  · refine⟨by omega,fun j hj=>?_⟩
    have:=SA h j hj
    rwa [Nat.zero_add] at this
theorem iY {m:ae} {p:Pr} (h:eG m p=true):(0≤p.db∧p.db<m.rules)∧0≤p.fst∧p.fst<p.snd∧p.snd<m.cls.length∧(p.aP.length:Int)=(m.cls.getD p.fst.toNat default).length * (m.cls.getD p.snd.toNat default).length:=by
  unfold eG iP at h
  simp only[a7,decide_eq_true_eq] at h
  exact⟨h.1.1,h.1.2⟩
theorem sQ {x y a b:Int} (hx:0≤x∧x<a) (hy:0≤y∧y<b) (ha:a≤24) (hb:b≤24):0≤x * b∧x * b≤576∧x * b+y<a * b:=by
  have h1:0≤x * b:=pt hx.1 (by omega)
  have h2:x * b≤(a - 1) * b:=Int.mul_le_mul_of_nonneg_right (by omega) (by omega)
  have h3:(a - 1) * b=a * b - b:=by rw[Int.sub_mul,Int.one_mul]
  have h4:a * b≤24 * 24:=Int.mul_le_mul ha hb (by omega) (by omega)
  omega
theorem ju {m:ae} {c:Ct} (h:fP m c=true):(0≤c.db∧c.db<m.rules)∧(0≤c.most∧c.most≤1048576)∧fK c.bg=true∧eo m none c.aA=true:=by
  unfold fP iP at h
  simp only[a7,decide_eq_true_eq] at h
  exact⟨h.1.1.1,h.1.1.2,h.1.2,h.2⟩
theorem vo {m:ae} {p:Pr} (hp:eG m p=true) (x y:Int):aS (jP m p x y):=by
  unfold jP
  rcases dG (x * (m.cls.getD p.snd.toNat default).length+y).toNat p.aP.length with h | h
  · unfold eG at hp
    simp only[a7,jh,List.any_eq_false] at hp
    have:=hp.2 _ (az (d:=0) h)
    unfold n5 at this
    simp only[a7,decide_eq_true_eq,jh,not_and,Bool.not_eq_false] at this
    generalize p.aP.getD (x * (m.cls.getD p.snd.toNat default).length+y).toNat 0=n at *
    by_cases h0:n=0
    · subst h0;unfold aS;decide
    · exact g7 (this h0)
  · rw[ay,dM h];unfold aS;decide
end T

