import Derived.Test.YtdipcmigdbnheaaGreatX08
set_option linter.unusedVariables false
set_option linter.unusedSimpArgs false
set_option linter.unnecessarySimpa false
set_option linter.unusedSectionVars false
set_option maxHeartbeats 64000000
set_option maxRecDepth 20000
open List renaming getD_eq_getElem?_getD→ay,replicate→bq,getElem?_eq_none→du,any_eq_true→sB,mem_cons→bZ,length_cons→dH,length_nil→nJ
open Nat renaming lt_or_ge→eK
open Bool renaming and_eq_true→bh,not_eq_true'→j4
open Int renaming mul_nonneg→pC
open Go Go.Am
namespace T
theorem Rc:type_of% @b5 ∧type_of% @gr ∧type_of% @zn ∧type_of% @Nw ∧type_of% @HH ∧type_of% @Bh ∧type_of% @zo  :=
  ⟨@b5 ,@gr ,@zn ,@Nw ,@HH ,@Bh ,@zo ⟩
def fR (x:Int):Prop:=-9223372036854775808≤x∧x≤9223372036854775807
def vX (n m:Int):Int:=if m<1 then 0 else n % m
theorem abd (n m:Int) (hm:0<m):0≤vX n m∧vX n m<m:=by
  unfold vX
  rw[if_neg (by omega)]
  exact⟨Int.emod_nonneg _ (by omega),Int.emod_lt_of_pos _ (by omega)⟩
theorem IC (n m:Int) (hm:0<m):(n.tmod m<0→n % m=n.tmod m+m)∧(0≤n.tmod m→n % m=n.tmod m)∧-m<n.tmod m∧n.tmod m<m:=by
  have h1:=Int.emod_nonneg n (show m≠0 by omega)
  have h2:=Int.emod_lt_of_pos n hm
  rcases Int.lt_or_le n 0 with hn | hn
  · have h3:n.tmod m = -((-n) % m):=by
      have:=Int.neg_tmod (a:=-n) (b:=m)
      rw[Int.neg_neg] at this
      rw[this,Int.tmod_eq_emod_of_nonneg (by omega)]
    have h4:=Int.emod_nonneg (-n) (show m≠0 by omega)
    have h5:=Int.emod_lt_of_pos (-n) hm
    have h6:=Int.mul_ediv_add_emod n m
    have h7:=Int.mul_ediv_add_emod (-n) m
    have key:(n % m=0∧(-n) % m=0)∨n % m=m - (-n) % m:=by
      by_cases hz:(-n) % m=0
      · left
        have hd:m ∣ -n:=Int.dvd_of_emod_eq_zero hz
        have rA:m ∣ n:=(Int.dvd_neg).1 hd
        exact⟨Int.emod_eq_zero_of_dvd rA,hz⟩
      · right
        have:n=m * (-((-n) / m) - 1)+(m - (-n) % m):=by
          have : -n=m * ((-n) / m)+(-n) % m:=h7.symm
          rw[Int.mul_sub,Int.mul_neg]
          omega
        rw[this,Int.mul_add_emod_self_left]
        rw[← this]
        exact Int.emod_eq_of_lt (by omega) (by omega)
    rw[h3]
    refine⟨?_,?_,?_,?_⟩<;>omega
  · rw[Int.tmod_eq_emod_of_nonneg hn]
    refine⟨?_,?_,?_,?_⟩<;>omega
def eC (L:List Int) (zR:Nat) (n:Int):Int:=if zR ≥ L.length then 0 else vX (L.getD zR 0) n
def cQ (L:List Int) (zR:Nat):Nat:=if zR ≥ L.length then zR else zR+1
theorem gM {L:List Int} {k:Nat} (h:k≤L.length):cQ L k≤L.length:=by unfold cQ;split<;>omega
theorem mi {L:List Int} {k:Nat} {n:Int} (h:0<n):0≤eC L k n∧eC L k n<n:=by
  unfold eC
  split
  · omega
  · exact abd _ _ h
def zS (L:List Int) (k:Nat) (n:Int):Bool:=decide (eC L k n=n - 1)
theorem az {α:Type} {l:List α} {i:Nat} {d:α} (h:i<l.length):l.getD i d∈l:=by
  rw[ay,List.getElem?_eq_getElem h]
  exact List.getElem_mem h
theorem Pg {σ:St} {kp:Nat→Prop} {ρ:Nat→Nat} {snap:Bool} {a b c d e f:AV} (h:aN σ kp ρ snap a d) (k:aN σ kp ρ snap b e) (l:aN σ kp ρ snap c f):aN σ kp ρ snap (.bL [a,b,c]) (.bL [d,e,f]) :=
  .bL _ _ rfl (fD.spec (R:=aN σ kp ρ snap) (cs:=[a,b,c]) (ds:=[d,e,f]) ⟨h,k,l,trivial⟩).2
def dQ (a b:Int):Int:=min (a+b) 1099511627776
def iM (n:Int):Bool:=decide ((1≤n∧n≤1048576)∨n=1099511627776)
def iL (R n:Int):Bool:=decide (0≤n∧n<R)
def eP (m:ah) (c o:Int):Bool:=decide (0≤c∧c<m.cls.length∧0≤o∧o<(m.cls.getD c.toNat default).length)
def nA (a b:Int):Int:=if a<b then -1 else if b<a then 1 else 0
def rW:List Int→Int
  | []=>0
  | x::r=>if x≠0 then x else rW r
def kP (most bE sum:Int):Int:=if sum≤most then 0 else min ((sum - most) * bE) 1099511627776
def zT (n c:Int):Int:=if n≤0 then 0 else if 1099511627776≤c then 1099511627776 else min (n * c) 1099511627776
def oe (L:List Int) (k:Nat):Int:=if eC L k 6<3 then 0 else if eC L k 6=3 then 1099511627776 else 1+eC L (cQ L k) 20
def s5 (L:List Int) (k:Nat):Nat:=if eC L k 6≤3 then cQ L k else cQ L (cQ L k)
def kQ {α:Type} [Inhabited α] (l:List α) (k:Nat):Option α:=if k=0 then none else some (l.getD (k - 1) default)
def dF (R:Int):Option (Int × Int)→List (Int × Int)→Bool
  | _,[]=>true
  | q,c::r=>(iL R c.1 && iM c.2 && (match q with | none=>true | some q=>decide (q.1<c.1))) && dF R (some c) r
def mS (a b:Pr):Int:=rW [nA a.cB b.cB,nA a.fst b.fst,nA a.snd b.snd]
def nt (n:Int):Bool:=decide (n≠0) && !iM n
def fJ (m:ah) (p:Pr):Bool:=iL m.rules p.cB && decide (0≤p.fst∧p.fst<p.snd∧p.snd<m.cls.length∧(p.ax.length:Int)=(m.cls.getD p.fst.toNat default).length * (m.cls.getD p.snd.toNat default).length) && !p.ax.any nt
def eI (m:ah):Option Pr→List Pr→Bool
  | _,[]=>true
  | q,p::r=>(fJ m p && (match q with | none=>true | some q=>decide (mS q p<0))) && eI m (some p) r
def rV (a b:Ld):Int:=rW [nA a.cls b.cls,nA a.opt b.opt]
def dR (m:ah):Option Ld→List Ld→Bool
  | _,[]=>true
  | q,x::r=>(eP m x.cls x.opt && decide (1≤x.wt∧x.wt≤1000) && (match q with | none=>true | some q=>decide (rV q x<0))) && dR m (some x) r
def gV (m:ah) (c:Ct):Bool:=iL m.rules c.cB && decide (0≤c.most∧c.most≤1048576) && iM c.bE && dR m none c.aK
def qK (m:ah):Bool:=decide (24<m.cls.length∨m.cls.any (fun l=>decide (24<l.length))=true∨4000<m.ae.length∨800<m.au.length∨m.rules<0∨56<m.rules)
def dI (m:ah):Int:=if qK m=true then 2 else if (m.cls.any fun l=>l.any fun o=>!dF m.rules none o.ch)=true then 1 else if eI m none m.ae=false then 1 else if (m.au.any fun c=>!gV m c)=true then 1 else 0
def qL (m:ah):Nat→List Int→Bool
  | _,[]=>true
  | i,o::r=>(decide (o = -1) || eP m i o) && qL m (i+1) r
def qM (m:ah) (plan:List Int):Bool:=if plan.length≠m.cls.length then false else qL m 0 plan
theorem td {α:Type} [Inhabited α] (l:List α) (k:Nat):kQ l (k+1)=some (l.getD k default):=by simp[kQ]
theorem Ph {R:Int} {l r:List (Int × Int)} {k:Nat} {c:Int × Int}:dF R (kQ l k) (c::r)=((iL R c.1 && iM c.2 && (decide (k=0) || decide ((l.getD (k - 1) default).1<c.1))) && dF R (some c) r):=by
  by_cases h:k=0<;>simp[kQ,h,dF]
theorem Pj {m:ah} {l r:List Pr} {k:Nat} {p:Pr}:eI m (kQ l k) (p::r)=((fJ m p && (decide (k=0) || decide (mS (l.getD (k - 1) default) p<0))) && eI m (some p) r):=by
  by_cases h:k=0<;>simp[kQ,h,eI]
theorem Pk {m:ah} {l r:List Ld} {k:Nat} {x:Ld}:dR m (kQ l k) (x::r)=((eP m x.cls x.opt && decide (1≤x.wt∧x.wt≤1000) && (decide (k=0) || decide (rV (l.getD (k - 1) default) x<0))) && dR m (some x) r):=by
  by_cases h:k=0<;>simp[kQ,h,dR]
structure MB (m:ah):Prop where
  cls:m.cls.length<9223372036854775808
  opt:∀ l∈m.cls,l.length<9223372036854775808
  ch:∀ l∈m.cls,∀ o∈l,o.ch.length<9223372036854775808
  ae:m.ae.length<9223372036854775808
  ax:∀ p∈m.ae,p.ax.length<9223372036854775808
  au:m.au.length<9223372036854775808
  kr:∀ c∈m.au,c.aK.length<9223372036854775808
def eZ (out:List Int) (r c:Int):List Int:=out.set r.toNat (dQ (out.getD r.toNat 0) c)
def te:List (Int × Int)→List Int→List Int
  | [],out=>out
  | c::r,out=>te r (eZ out c.1 c.2)
def s8 (m:ah):Nat→List Int→List Int→List Int
  | _,[],out=>out
  | i,o::r,out=>s8 m (i+1) r (if o<0 then out else te ((m.cls.getD i default).getD o.toNat default).ch out)
def nB (m:ah) (p:Pr) (x y:Int):Int:=p.ax.getD (x * (m.cls.getD p.snd.toNat default).length+y).toNat 0
def s9 (m:ah) (plan:List Int):List Pr→List Int→List Int
  | [],out=>out
  | p::r,out=>s9 m plan r (if 0≤plan.getD p.fst.toNat 0∧0≤plan.getD p.snd.toNat 0 then eZ out p.cB (nB m p (plan.getD p.fst.toNat 0) (plan.getD p.snd.toNat 0)) else out)
def lK (plan:List Int):List Ld→Int→Int
  | [],n=>n
  | x::r,n=>lK plan r (if plan.getD x.cls.toNat 0=x.opt then n+x.wt else n)
def ta (plan:List Int):List Ct→List Int→List Int
  | [],out=>out
  | c::r,out=>ta plan r (eZ out c.cB (kP c.most c.bE (lK plan c.aK 0)))
def ny:List Int→Int→Int
  | [],n=>n
  | x::r,n=>ny r (dQ n x)
def nq (m:ah) (plan:List Int):List Int:=ta plan m.au (s9 m plan m.ae (s8 m 0 plan (bq m.rules.toNat 0)))
def ID (m:ah) (plan:List Int):Int × List Int:=(ny (nq m plan) 0,nq m plan)
def xL (m:ah) (plan:List Int):Int × List Int × Int :=
  if dI m≠0 then (0,[],dI m) else if qM m plan=false then (0,[],17) else ((ID m plan).1,(ID m plan).2,0)
def bP (x:Int):Prop:=0≤x∧x≤1099511627776
theorem zD {a b:Int} (ha:bP a) (hb:bP b):bP (dQ a b):=by unfold bP dQ at *;omega
theorem mg {n:Int} (h:iM n=true):bP n:=by unfold iM at h;rw[decide_eq_true_eq] at h;unfold bP;omega
def iX (R:Int) (out:List Int):Prop:=(out.length:Int)=R∧∀ x∈out,bP x
theorem iX.get {R:Int} {out:List Int} (h:iX R out) (i:Nat):bP (out.getD i 0):=by
  rcases eK i out.length with hi | hi
  · exact h.2 _ (az hi)
  · rw[ay,du hi];unfold bP;decide
theorem iX.add {R:Int} {out:List Int} (h:iX R out) {r c:Int} (hc:bP c):iX R (eZ out r c) :=
  ⟨by rw[eZ,List.length_set];exact h.1,fun x hx=>by
    rcases List.mem_or_eq_of_mem_set hx with h' | h'
    · exact h.2 x h'
    · rw[h'];exact zD (h.get _) hc⟩
theorem iX.rep {R:Int} (hR:0≤R):iX R (bq R.toNat 0):=⟨by simp;omega,fun x hx=>by
  have:=List.eq_of_mem_replicate hx
  subst this;unfold bP;decide⟩
structure VM (m:ah):Prop where
  cls:m.cls.length≤24
  opt:∀ l∈m.cls,l.length≤24
  ae:m.ae.length≤4000
  au:m.au.length≤800
  nx:0≤m.rules∧m.rules≤56
  nu:∀ l∈m.cls,∀ o∈l,dF m.rules none o.ch=true
  pr:eI m none m.ae=true
  ct:∀ c∈m.au,gV m c=true
theorem iJ {m:ah}:dI m=0↔VM m:=by
  unfold dI
  constructor
  · intro h
    split at h
    · omega
    split at h
    · omega
    split at h
    · omega
    split at h
    · omega
    rename_i h1 h2 h3 h4
    have w5:qK m=false:=by simpa using h1
    rw[qK,decide_eq_false_iff_not] at w5
    have h5:∀ l∈m.cls,l.length≤24:=fun l hl=>by
      rcases eK 24 l.length with h | h
      · exact absurd (.inr (.inl (sB.2 ⟨l,hl,by simpa using h⟩))) w5
      · exact h
    refine⟨by omega,h5,by omega,by omega,by omega,fun l hl o ho=>?_,by simpa using h3,fun c hc=>?_⟩
    · cases hh:dF m.rules none o.ch with
      | true=>rfl
      | false=>exact absurd (sB.2 ⟨l,hl,sB.2 ⟨o,ho,by rw[hh];rfl⟩⟩) h2
    · cases hh:gV m c with
      | true=>rfl
      | false=>exact absurd (sB.2 ⟨c,hc,by rw[hh];rfl⟩) h4
  · intro h
    have h0:qK m=false:=by
      rw[qK,decide_eq_false_iff_not]
      rintro (h' | h' | h' | h' | h' | h')
      · have:=h.cls;omega
      · obtain ⟨l,hl,ER⟩:=sB.1 h'
        have:=h.opt l hl
        simp only[decide_eq_true_eq] at ER;omega
      · have:=h.ae;omega
      · have:=h.au;omega
      · have:=h.nx;omega
      · have:=h.nx;omega
    rw[if_neg (by rw[h0];simp),if_neg,if_neg (by rw[h.pr];simp),if_neg]
    · intro hh
      obtain ⟨c,hc,h'⟩:=sB.1 hh
      rw[h.ct c hc] at h';simp at h'
    · intro hh
      obtain ⟨l,hl,h'⟩:=sB.1 hh
      obtain ⟨o,ho,ER⟩:=sB.1 h'
      rw[h.nu l hl o ho] at ER;simp at ER
theorem zC {R:Int}:∀ {l:List (Int × Int)} {q:Option (Int × Int)},dF R q l=true→∀ c∈l,iL R c.1=true∧iM c.2=true
  | [],_,_,c,hc=>by simp at hc
  | x::r,q,h,c,hc=>by
    rw[dF.eq_def] at h
    simp only[bh] at h
    rcases bZ.1 hc with rfl | hc
    · exact h.1.1
    · exact zC h.2 c hc
theorem ES {R:Int}:∀ {l:List (Int × Int)} {q:Int × Int},dF R (some q) l=true→l=[]∨q.1+l.length<R
  | [],_,_=>.inl rfl
  | x::r,q,h=>by
    right
    rw[dF] at h
    simp only[bh,decide_eq_true_eq,iL] at h
    rcases ES h.2 with rfl | h5
    · simp only[dH,nJ];omega
    · simp only[dH];omega
theorem EL {R:Int} {l:List (Int × Int)} (hR:0≤R) (h:dF R none l=true):(l.length:Int)≤R:=by
  cases l with
  | nil=>simpa using hR
  | cons x r =>
    rw[dF] at h
    simp only[bh,decide_eq_true_eq,iL] at h
    rcases ES h.2 with rfl | h5
    · simp only[dH,nJ];omega
    · simp only[dH];omega
theorem jn {m:ah}:∀ {l:List Pr} {q:Option Pr},eI m q l=true→∀ p∈l,fJ m p=true
  | [],_,_,c,hc=>by simp at hc
  | x::r,q,h,c,hc=>by
    rw[eI.eq_def] at h
    simp only[bh] at h
    rcases bZ.1 hc with rfl | hc
    · exact h.1.1
    · exact jn h.2 c hc
theorem iy {m:ah} {c o:Int}:eP m c o=true↔0≤c∧c<m.cls.length∧0≤o∧o<(m.cls.getD c.toNat default).length:=by rw[eP,decide_eq_true_eq]
theorem Pl {m:ah} (h:VM m) {c o:Int} (hb:eP m c o=true):0≤c∧c<24∧0≤o∧o<24:=by
  obtain ⟨h1,h2,h3,h4⟩:=iy.1 hb
  have:=h.cls
  have:=h.opt _ (az (l:=m.cls) (i:=c.toNat) (d:=default) (by omega))
  omega
theorem BR (a b:Int):(a<b∧nA a b = -1)∨(a=b∧nA a b=0)∨(b<a∧nA a b=1):=by
  unfold nA
  rcases Int.lt_trichotomy a b with h | h | h
  · left;exact⟨h,by rw[if_pos h]⟩
  · right;left;exact⟨h,by rw[if_neg (by omega),if_neg (by omega)]⟩
  · right;right;exact⟨h,by rw[if_neg (by omega),if_pos h]⟩
theorem EM {a b:Ld}:rV a b<0↔a.cls<b.cls∨(a.cls=b.cls∧a.opt<b.opt):=by
  unfold rV
  rcases BR a.cls b.cls with ⟨h,e⟩ | ⟨h,e⟩ | ⟨h,e⟩<;>rcases BR a.opt b.opt with ⟨h',e'⟩ | ⟨h',e'⟩ | ⟨h',e'⟩<;>simp[rW,e,e']<;>omega
theorem Ir {a b:Pr}:mS a b<0↔a.cB<b.cB∨(a.cB=b.cB∧(a.fst<b.fst∨(a.fst=b.fst∧a.snd<b.snd))):=by
  unfold mS
  rcases BR a.cB b.cB with ⟨h,e⟩ | ⟨h,e⟩ | ⟨h,e⟩<;>rcases BR a.fst b.fst with ⟨h',e'⟩ | ⟨h',e'⟩ | ⟨h',e'⟩<;>rcases BR a.snd b.snd with ⟨h2,e2⟩ | ⟨h2,e2⟩ | ⟨h2,e2⟩<;>simp[rW,e,e',e2]<;>omega
theorem Pm {m:ah} (hm:VM m):∀ {l:List Ld} {q:Ld},dR m (some q) l=true→0≤q.cls∧0≤q.opt∧q.opt<24→l=[]∨q.cls * 24+q.opt+l.length<576
  | [],_,_,_=>.inl rfl
  | x::r,q,h,hq=>by
    right
    rw[dR] at h
    simp only[bh,decide_eq_true_eq] at h
    obtain ⟨⟨⟨h1,h2⟩,h3⟩,h4⟩:=h
    obtain ⟨a,b,c,d⟩:=Pl hm h1
    have bj:q.cls * 24+q.opt<x.cls * 24+x.opt:=by
      rcases EM.1 h3 with h | h<;>omega
    rcases Pm hm h4 ⟨a,c,d⟩ with rfl | h5
    · simp only[dH,nJ];omega
    · simp only[dH];omega
theorem BO {m:ah} (hm:VM m) {l:List Ld} (h:dR m none l=true):l.length≤576:=by
  cases l with
  | nil=>simp
  | cons x r =>
    rw[dR] at h
    simp only[bh,decide_eq_true_eq] at h
    obtain ⟨a,b,c,d⟩:=Pl hm h.1.1.1
    rcases Pm hm h.2 ⟨a,c,d⟩ with rfl | h5
    · simp
    · simp only[dH];omega
theorem o7 {m:ah}:∀ {l:List Ld} {q:Option Ld},dR m q l=true→∀ x∈l,eP m x.cls x.opt=true∧1≤x.wt∧x.wt≤1000
  | [],_,_,c,hc=>by simp at hc
  | x::r,q,h,c,hc=>by
    rw[dR.eq_def] at h
    simp only[bh,decide_eq_true_eq] at h
    rcases bZ.1 hc with rfl | hc
    · exact⟨h.1.1.1,h.1.1.2⟩
    · exact o7 h.2 c hc
theorem Pn {m:ah} {plan:List Int}:∀ {l:List Ld},(∀ x∈l,1≤x.wt∧x.wt≤1000)→∀ n,n≤lK plan l n∧lK plan l n≤n+1000 * l.length
  | [],_,n=>by simp[lK]
  | x::r,h,n=>by
    have hx:=h x (by simp)
    rw[lK]
    have:=Pn (m:=m) (plan:=plan) (l:=r) (fun y hy=>h y (by simp[hy])) (if plan.getD x.cls.toNat 0=x.opt then n+x.wt else n)
    simp only[dH]
    split at this<;>split<;>simp_all<;>omega
theorem EO {most bE sum:Int} (h:bP bE):bP (kP most bE sum):=by
  unfold kP bP at *
  split
  · omega
  · have:0≤(sum - most) * bE:=pC (by omega) h.1
    omega
theorem O0 {R:Int}:∀ {l:List (Int × Int)} {out:List Int},iX R out→(∀ c∈l,iM c.2=true)→iX R (te l out)
  | [],_,h,_=>h
  | c::r,out,h,hc=>by rw[te];exact O0 (h.add (mg (hc c (by simp)))) fun x hx=>hc x (by simp[hx])
theorem Po {m:ah}:∀ {plan:List Int} {i:Nat},qL m i plan=true→∀ j,j<plan.length→plan.getD j 0 = -1∨eP m ((i+j:Nat):Int) (plan.getD j 0)=true
  | [],_,_,j,hj=>by simp at hj
  | o::r,i,h,j,hj=>by
    rw[qL] at h
    simp only[bh,Bool.or_eq_true,decide_eq_true_eq] at h
    cases j with
    | zero=>rw[List.getD_cons_zero];exact h.1
    | succ j =>
      rw[List.getD_cons_succ]
      have:=Po h.2 j (by simpa using hj)
      rwa [show i+1+j=i+(j+1) by omega] at this
structure PM (m:ah) (plan:List Int):Prop where
  len:plan.length=m.cls.length
  get:∀ j,j<plan.length→plan.getD j 0 = -1∨eP m (j:Nat) (plan.getD j 0)=true
theorem abe {m:ah} {plan:List Int} (h:qM m plan=true):PM m plan:=by
  unfold qM at h
  split at h
  · simp at h
  · refine⟨by omega,fun j hj=>?_⟩
    have:=Po h j hj
    rwa [Nat.zero_add] at this
theorem mj {m:ah} {p:Pr} (h:fJ m p=true):(0≤p.cB∧p.cB<m.rules)∧0≤p.fst∧p.fst<p.snd∧p.snd<m.cls.length∧(p.ax.length:Int)=(m.cls.getD p.fst.toNat default).length * (m.cls.getD p.snd.toNat default).length:=by
  unfold fJ iL at h
  simp only[bh,decide_eq_true_eq] at h
  exact⟨h.1.1,h.1.2⟩
theorem uC {x y a b:Int} (hx:0≤x∧x<a) (hy:0≤y∧y<b) (ha:a≤24) (hb:b≤24):0≤x * b∧x * b≤576∧x * b+y<a * b:=by
  have h1:0≤x * b:=pC hx.1 (by omega)
  have h2:x * b≤(a - 1) * b:=Int.mul_le_mul_of_nonneg_right (by omega) (by omega)
  have h3:(a - 1) * b=a * b - b:=by rw[Int.sub_mul,Int.one_mul]
  have h4:a * b≤24 * 24:=Int.mul_le_mul ha hb (by omega) (by omega)
  omega
theorem nw {m:ah} {c:Ct} (h:gV m c=true):(0≤c.cB∧c.cB<m.rules)∧(0≤c.most∧c.most≤1048576)∧iM c.bE=true∧dR m none c.aK=true:=by
  unfold gV iL at h
  simp only[bh,decide_eq_true_eq] at h
  exact⟨h.1.1.1,h.1.1.2,h.1.2,h.2⟩
theorem EN {m:ah} {p:Pr} (hp:fJ m p=true) (x y:Int):bP (nB m p x y):=by
  unfold nB
  rcases eK (x * (m.cls.getD p.snd.toNat default).length+y).toNat p.ax.length with h | h
  · unfold fJ at hp
    simp only[bh,j4,List.any_eq_false] at hp
    have:=hp.2 _ (az (d:=0) h)
    unfold nt at this
    simp only[bh,decide_eq_true_eq,j4,not_and,Bool.not_eq_false] at this
    generalize p.ax.getD (x * (m.cls.getD p.snd.toNat default).length+y).toNat 0=n at *
    by_cases h0:n=0
    · subst h0;unfold bP;decide
    · exact mg (this h0)
  · rw[ay,du h];unfold bP;decide
end T

