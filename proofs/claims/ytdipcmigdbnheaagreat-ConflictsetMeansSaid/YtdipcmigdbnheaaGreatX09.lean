import Derived.Test.YtdipcmigdbnheaaGreatX05
import Derived.Test.YtdipcmigdbnheaaGreatX06
set_option linter.unusedVariables false
set_option linter.unusedSimpArgs false
set_option linter.unnecessarySimpa false
set_option linter.unusedSectionVars false
set_option maxHeartbeats 64000000
set_option maxRecDepth 20000
open Int renaming emod_nonneg→JN,emod_lt_of_pos→JO,mul_nonneg→p6,mul_le_mul→pj,toNat_natCast→gD,zero_add→wg,toNat_of_nonneg→po
open List renaming getD_eq_getElem?_getD→aA,replicate→bY,getElem?_eq_none→eS,any_eq_true→p8,mem_cons→cu,length_cons→dH,length_nil→mQ,getD_cons_zero→gb,getD_cons_succ→eJ,any_eq_false→Fs,nil_append→dh,cons_append→da,mem_append→cr,mem_singleton→eM,mem_map→ca,map_cons→dO,map_map→uR,map_congr_left→kU,mem_iff_getElem→sh
open Nat renaming lt_or_ge→eF,zero_add→fi
open Bool renaming and_eq_true→bk,not_eq_true'→kx
open Option renaming some→cY
open Go Go.Am
namespace T
theorem Rc:type_of% @b8 ∧type_of% @iB ∧type_of% @vd ∧type_of% @Mf ∧type_of% @Mg ∧type_of% @Aq ∧type_of% @qo  :=
  ⟨@b8 ,@iB ,@vd ,@Mf ,@Mg ,@Aq ,@qo ⟩
def fc (x:Int):Prop:=-9223372036854775808≤x∧x≤9223372036854775807
def qy (n m:Int):Int:=if m<1 then 0 else n % m
theorem aaM (n m:Int) (hm:0<m):0≤qy n m∧qy n m<m:=by
  unfold qy
  rw[if_neg (by omega)]
  exact⟨JN _ (by omega),JO _ (by omega)⟩
theorem Hg (n m:Int) (hm:0<m):(n.tmod m<0→n % m=n.tmod m+m)∧(0≤n.tmod m→n % m=n.tmod m)∧-m<n.tmod m∧n.tmod m<m:=by
  have h1:=JN n (show m≠0 by omega)
  have h2:=JO n hm
  rcases Int.lt_or_le n 0 with hn | hn
  · have h3:n.tmod m = -((-n) % m):=by
      have:=Int.neg_tmod (a:=-n) (b:=m)
      rw[Int.neg_neg] at this
      rw[this,Int.tmod_eq_emod_of_nonneg (by omega)]
    have h4:=JN (-n) (show m≠0 by omega)
    have h5:=JO (-n) hm
    have h6:=Int.mul_ediv_add_emod n m
    have h7:=Int.mul_ediv_add_emod (-n) m
    have key:(n % m=0∧(-n) % m=0)∨n % m=m - (-n) % m:=by
      by_cases hz:(-n) % m=0
      · left
        have hd:m ∣ -n:=Int.dvd_of_emod_eq_zero hz
        have rh:m ∣ n:=(Int.dvd_neg).1 hd
        exact⟨Int.emod_eq_zero_of_dvd rh,hz⟩
      · right
        have:n=m * (-((-n) / m) - 1)+(m - (-n) % m):=by
          have : -n=m * ((-n) / m)+(-n) % m:=h7.symm
          rw[Int.mul_sub,Int.mul_neg]
          omega
        rw[this,Int.mul_add_emod_self_left]
        rw[← this]
        exact Int.emod_eq_of_lt (by omega) (by omega)
    rw[h3]
    refine⟨?_,?_,?_,?_⟩<;>omega
  · rw[Int.tmod_eq_emod_of_nonneg hn]
    refine⟨?_,?_,?_,?_⟩<;>omega
def eH (L:List Int) (yS:Nat) (n:Int):Int:=if yS ≥ L.length then 0 else qy (L.getD yS 0) n
def cU (L:List Int) (yS:Nat):Nat:=if yS ≥ L.length then yS else yS+1
theorem gw {L:List Int} {k:Nat} (h:k≤L.length):cU L k≤L.length:=by unfold cU;split<;>omega
theorem mf {L:List Int} {k:Nat} {n:Int} (h:0<n):0≤eH L k n∧eH L k n<n:=by
  unfold eH
  split
  · omega
  · exact aaM _ _ h
def xc (L:List Int) (k:Nat) (n:Int):Bool:=decide (eH L k n=n - 1)
theorem aC {α:Type} {l:List α} {i:Nat} {d:α} (h:i<l.length):l.getD i d∈l:=by
  rw[aA,List.getElem?_eq_getElem h]
  exact List.getElem_mem h
theorem DR {σ:St} {kp:Nat→Prop} {ρ:Nat→Nat} {snap:Bool} {a b c d e f:AV} (h:aE σ kp ρ snap a d) (k:aE σ kp ρ snap b e) (l:aE σ kp ρ snap c f):aE σ kp ρ snap (.bG [a,b,c]) (.bG [d,e,f]) :=
  .bG _ _ rfl (dY.spec (R:=aE σ kp ρ snap) (cs:=[a,b,c]) (ds:=[d,e,f]) ⟨h,k,l,trivial⟩).2
def dw (a b:Int):Int:=min (a+b) 1099511627776
def iR (n:Int):Bool:=decide ((1≤n∧n≤1048576)∨n=1099511627776)
def iu (R n:Int):Bool:=decide (0≤n∧n<R)
def g7 (m:aj) (c o:Int):Bool:=decide (0≤c∧c<m.cls.length∧0≤o∧o<(m.cls.getD c.toNat default).length)
def m9 (a b:Int):Int:=if a<b then -1 else if b<a then 1 else 0
def rO:List Int→Int
  | []=>0
  | x::r=>if x≠0 then x else rO r
def jk (most bL sum:Int):Int:=if sum≤most then 0 else min ((sum - most) * bL) 1099511627776
def yR (n c:Int):Int:=if n≤0 then 0 else if 1099511627776≤c then 1099511627776 else min (n * c) 1099511627776
def n7 (L:List Int) (k:Nat):Int:=if eH L k 6<3 then 0 else if eH L k 6=3 then 1099511627776 else 1+eH L (cU L k) 20
def s9 (L:List Int) (k:Nat):Nat:=if eH L k 6≤3 then cU L k else cU L (cU L k)
def kH {α:Type} [Inhabited α] (l:List α) (k:Nat):Option α:=if k=0 then none else some (l.getD (k - 1) default)
def dj (R:Int):Option (Int × Int)→List (Int × Int)→Bool
  | _,[]=>true
  | q,c::r=>(iu R c.1 && iR c.2 && (match q with | none=>true | some q=>decide (q.1<c.1))) && dj R (some c) r
def mJ (a b:Pr):Int:=rO [m9 a.aV b.aV,m9 a.fst b.fst,m9 a.snd b.snd]
def nf (n:Int):Bool:=decide (n≠0) && !iR n
def eW (m:aj) (p:Pr):Bool:=iu m.rules p.aV && decide (0≤p.fst∧p.fst<p.snd∧p.snd<m.cls.length∧(p.az.length:Int)=(m.cls.getD p.fst.toNat default).length * (m.cls.getD p.snd.toNat default).length) && !p.az.any nf
def ee (m:aj):Option Pr→List Pr→Bool
  | _,[]=>true
  | q,p::r=>(eW m p && (match q with | none=>true | some q=>decide (mJ q p<0))) && ee m (some p) r
def rP (a b:Ld):Int:=rO [m9 a.cls b.cls,m9 a.opt b.opt]
def dx (m:aj):Option Ld→List Ld→Bool
  | _,[]=>true
  | q,x::r=>(g7 m x.cls x.opt && decide (1≤x.wt∧x.wt≤1000) && (match q with | none=>true | some q=>decide (rP q x<0))) && dx m (some x) r
def fY (m:aj) (c:Ct):Bool:=iu m.rules c.aV && decide (0≤c.most∧c.most≤1048576) && iR c.bL && dx m none c.aS
def qH (m:aj):Bool:=decide (24<m.cls.length∨m.cls.any (fun l=>decide (24<l.length))=true∨4000<m.ae.length∨800<m.au.length∨m.rules<0∨56<m.rules)
def dz (m:aj):Int:=if qH m=true then 2 else if (m.cls.any fun l=>l.any fun o=>!dj m.rules none o.ch)=true then 1 else if ee m none m.ae=false then 1 else if (m.au.any fun c=>!fY m c)=true then 1 else 0
def qI (m:aj):Nat→List Int→Bool
  | _,[]=>true
  | i,o::r=>(decide (o = -1) || g7 m i o) && qI m (i+1) r
def oX (m:aj) (plan:List Int):Bool:=if plan.length≠m.cls.length then false else qI m 0 plan
theorem s0 {α:Type} [Inhabited α] (l:List α) (k:Nat):kH l (k+1)=some (l.getD k default):=by simp[kH]
theorem Ru {R:Int} {l r:List (Int × Int)} {k:Nat} {c:Int × Int}:dj R (kH l k) (c::r)=((iu R c.1 && iR c.2 && (decide (k=0) || decide ((l.getD (k - 1) default).1<c.1))) && dj R (some c) r):=by
  by_cases h:k=0<;>simp[kH,h,dj]
theorem Rv {m:aj} {l r:List Pr} {k:Nat} {p:Pr}:ee m (kH l k) (p::r)=((eW m p && (decide (k=0) || decide (mJ (l.getD (k - 1) default) p<0))) && ee m (some p) r):=by
  by_cases h:k=0<;>simp[kH,h,ee]
theorem Rx {m:aj} {l r:List Ld} {k:Nat} {x:Ld}:dx m (kH l k) (x::r)=((g7 m x.cls x.opt && decide (1≤x.wt∧x.wt≤1000) && (decide (k=0) || decide (rP (l.getD (k - 1) default) x<0))) && dx m (some x) r):=by
  by_cases h:k=0<;>simp[kH,h,dx]
structure MB (m:aj):Prop where
  cls:m.cls.length<9223372036854775808
  opt:∀ l∈m.cls,l.length<9223372036854775808
  ch:∀ l∈m.cls,∀ o∈l,o.ch.length<9223372036854775808
  ae:m.ae.length<9223372036854775808
  az:∀ p∈m.ae,p.az.length<9223372036854775808
  au:m.au.length<9223372036854775808
  kK:∀ c∈m.au,c.aS.length<9223372036854775808
def ef (out:List Int) (r c:Int):List Int:=out.set r.toNat (dw (out.getD r.toNat 0) c)
def ng:List (Int × Int)→List Int→List Int
  | [],out=>out
  | c::r,out=>ng r (ef out c.1 c.2)
def mg (m:aj):Nat→List Int→List Int→List Int
  | _,[],out=>out
  | i,o::r,out=>mg m (i+1) r (if o<0 then out else ng ((m.cls.getD i default).getD o.toNat default).ch out)
def lk (m:aj) (p:Pr) (x y:Int):Int:=p.az.getD (x * (m.cls.getD p.snd.toNat default).length+y).toNat 0
def lL (m:aj) (plan:List Int):List Pr→List Int→List Int
  | [],out=>out
  | p::r,out=>lL m plan r (if 0≤plan.getD p.fst.toNat 0∧0≤plan.getD p.snd.toNat 0 then ef out p.aV (lk m p (plan.getD p.fst.toNat 0) (plan.getD p.snd.toNat 0)) else out)
def iU (plan:List Int):List Ld→Int→Int
  | [],n=>n
  | x::r,n=>iU plan r (if plan.getD x.cls.toNat 0=x.opt then n+x.wt else n)
def mh (plan:List Int):List Ct→List Int→List Int
  | [],out=>out
  | c::r,out=>mh plan r (ef out c.aV (jk c.most c.bL (iU plan c.aS 0)))
def iF:List Int→Int→Int
  | [],n=>n
  | x::r,n=>iF r (dw n x)
def gQ (m:aj) (plan:List Int):List Int:=mh plan m.au (lL m plan m.ae (mg m 0 plan (bY m.rules.toNat 0)))
def yT (m:aj) (plan:List Int):Int × List Int:=(iF (gQ m plan) 0,gQ m plan)
def nV (m:aj) (plan:List Int):Int × List Int × Int :=
  if dz m≠0 then (0,[],dz m) else if oX m plan=false then (0,[],17) else ((yT m plan).1,(yT m plan).2,0)
def bF (x:Int):Prop:=0≤x∧x≤1099511627776
theorem xd {a b:Int} (ha:bF a) (hb:bF b):bF (dw a b):=by unfold bF dw at *;omega
theorem jY {n:Int} (h:iR n=true):bF n:=by unfold iR at h;rw[decide_eq_true_eq] at h;unfold bF;omega
def gR (R:Int) (out:List Int):Prop:=(out.length:Int)=R∧∀ x∈out,bF x
theorem gR.get {R:Int} {out:List Int} (h:gR R out) (i:Nat):bF (out.getD i 0):=by
  rcases eF i out.length with hi | hi
  · exact h.2 _ (aC hi)
  · rw[aA,eS hi];unfold bF;decide
theorem gR.add {R:Int} {out:List Int} (h:gR R out) {r c:Int} (hc:bF c):gR R (ef out r c) :=
  ⟨by rw[ef,List.length_set];exact h.1,fun x hx=>by
    rcases List.mem_or_eq_of_mem_set hx with h' | h'
    · exact h.2 x h'
    · rw[h'];exact xd (h.get _) hc⟩
theorem gR.rep {R:Int} (hR:0≤R):gR R (bY R.toNat 0):=⟨by simp;omega,fun x hx=>by
  have:=List.eq_of_mem_replicate hx
  subst this;unfold bF;decide⟩
structure VM (m:aj):Prop where
  cls:m.cls.length≤24
  opt:∀ l∈m.cls,l.length≤24
  ae:m.ae.length≤4000
  au:m.au.length≤800
  im:0≤m.rules∧m.rules≤56
  kI:∀ l∈m.cls,∀ o∈l,dj m.rules none o.ch=true
  pr:ee m none m.ae=true
  ct:∀ c∈m.au,fY m c=true
theorem eB {m:aj}:dz m=0↔VM m:=by
  unfold dz
  constructor
  · intro h
    split at h
    · omega
    split at h
    · omega
    split at h
    · omega
    split at h
    · omega
    rename_i h1 h2 h3 h4
    have wI:qH m=false:=by simpa using h1
    rw[qH,decide_eq_false_iff_not] at wI
    have h5:∀ l∈m.cls,l.length≤24:=fun l hl=>by
      rcases eF 24 l.length with h | h
      · exact absurd (.inr (.inl (p8.2 ⟨l,hl,by simpa using h⟩))) wI
      · exact h
    refine⟨by omega,h5,by omega,by omega,by omega,fun l hl o ho=>?_,by simpa using h3,fun c hc=>?_⟩
    · cases hh:dj m.rules none o.ch with
      | true=>rfl
      | false=>exact absurd (p8.2 ⟨l,hl,p8.2 ⟨o,ho,by rw[hh];rfl⟩⟩) h2
    · cases hh:fY m c with
      | true=>rfl
      | false=>exact absurd (p8.2 ⟨c,hc,by rw[hh];rfl⟩) h4
  · intro h
    have h0:qH m=false:=by
      rw[qH,decide_eq_false_iff_not]
      rintro (h' | h' | h' | h' | h' | h')
      · have:=h.cls;omega
      · obtain ⟨l,hl,DT⟩:=p8.1 h'
        have:=h.opt l hl
        simp only[decide_eq_true_eq] at DT;omega
      · have:=h.ae;omega
      · have:=h.au;omega
      · have:=h.im;omega
      · have:=h.im;omega
    rw[if_neg (by rw[h0];simp),if_neg,if_neg (by rw[h.pr];simp),if_neg]
    · intro hh
      obtain ⟨c,hc,h'⟩:=p8.1 hh
      rw[h.ct c hc] at h';simp at h'
    · intro hh
      obtain ⟨l,hl,h'⟩:=p8.1 hh
      obtain ⟨o,ho,DT⟩:=p8.1 h'
      rw[h.kI l hl o ho] at DT;simp at DT
theorem uj {R:Int}:∀ {l:List (Int × Int)} {q:Option (Int × Int)},dj R q l=true→∀ c∈l,iu R c.1=true∧iR c.2=true
  | [],_,_,c,hc=>by simp at hc
  | x::r,q,h,c,hc=>by
    rw[dj.eq_def] at h
    simp only[bk] at h
    rcases cu.1 hc with rfl | hc
    · exact h.1.1
    · exact uj h.2 c hc
theorem DU {R:Int}:∀ {l:List (Int × Int)} {q:Int × Int},dj R (some q) l=true→l=[]∨q.1+l.length<R
  | [],_,_=>.inl rfl
  | x::r,q,h=>by
    right
    rw[dj] at h
    simp only[bk,decide_eq_true_eq,iu] at h
    rcases DU h.2 with rfl | h5
    · simp only[dH,mQ];omega
    · simp only[dH];omega
theorem AS {R:Int} {l:List (Int × Int)} (hR:0≤R) (h:dj R none l=true):(l.length:Int)≤R:=by
  cases l with
  | nil=>simpa using hR
  | cons x r =>
    rw[dj] at h
    simp only[bk,decide_eq_true_eq,iu] at h
    rcases DU h.2 with rfl | h5
    · simp only[dH,mQ];omega
    · simp only[dH];omega
theorem jh {m:aj}:∀ {l:List Pr} {q:Option Pr},ee m q l=true→∀ p∈l,eW m p=true
  | [],_,_,c,hc=>by simp at hc
  | x::r,q,h,c,hc=>by
    rw[ee.eq_def] at h
    simp only[bk] at h
    rcases cu.1 hc with rfl | hc
    · exact h.1.1
    · exact jh h.2 c hc
theorem fZ {m:aj} {c o:Int}:g7 m c o=true↔0≤c∧c<m.cls.length∧0≤o∧o<(m.cls.getD c.toNat default).length:=by rw[g7,decide_eq_true_eq]
theorem Ry {m:aj} (h:VM m) {c o:Int} (hb:g7 m c o=true):0≤c∧c<24∧0≤o∧o<24:=by
  obtain ⟨h1,h2,h3,h4⟩:=fZ.1 hb
  have:=h.cls
  have:=h.opt _ (aC (l:=m.cls) (i:=c.toNat) (d:=default) (by omega))
  omega
theorem AY (a b:Int):(a<b∧m9 a b = -1)∨(a=b∧m9 a b=0)∨(b<a∧m9 a b=1):=by
  unfold m9
  rcases Int.lt_trichotomy a b with h | h | h
  · left;exact⟨h,by rw[if_pos h]⟩
  · right;left;exact⟨h,by rw[if_neg (by omega),if_neg (by omega)]⟩
  · right;right;exact⟨h,by rw[if_neg (by omega),if_pos h]⟩
theorem DV {a b:Ld}:rP a b<0↔a.cls<b.cls∨(a.cls=b.cls∧a.opt<b.opt):=by
  unfold rP
  rcases AY a.cls b.cls with ⟨h,e⟩ | ⟨h,e⟩ | ⟨h,e⟩<;>rcases AY a.opt b.opt with ⟨h',e'⟩ | ⟨h',e'⟩ | ⟨h',e'⟩<;>simp[rO,e,e']<;>omega
theorem Ho {a b:Pr}:mJ a b<0↔a.aV<b.aV∨(a.aV=b.aV∧(a.fst<b.fst∨(a.fst=b.fst∧a.snd<b.snd))):=by
  unfold mJ
  rcases AY a.aV b.aV with ⟨h,e⟩ | ⟨h,e⟩ | ⟨h,e⟩<;>rcases AY a.fst b.fst with ⟨h',e'⟩ | ⟨h',e'⟩ | ⟨h',e'⟩<;>rcases AY a.snd b.snd with ⟨h2,e2⟩ | ⟨h2,e2⟩ | ⟨h2,e2⟩<;>simp[rO,e,e',e2]<;>omega
theorem Rz {m:aj} (hm:VM m):∀ {l:List Ld} {q:Ld},dx m (some q) l=true→0≤q.cls∧0≤q.opt∧q.opt<24→l=[]∨q.cls * 24+q.opt+l.length<576
  | [],_,_,_=>.inl rfl
  | x::r,q,h,hq=>by
    right
    rw[dx] at h
    simp only[bk,decide_eq_true_eq] at h
    obtain ⟨⟨⟨h1,h2⟩,h3⟩,h4⟩:=h
    obtain ⟨a,b,c,d⟩:=Ry hm h1
    have bw:q.cls * 24+q.opt<x.cls * 24+x.opt:=by
      rcases DV.1 h3 with h | h<;>omega
    rcases Rz hm h4 ⟨a,c,d⟩ with rfl | h5
    · simp only[dH,mQ];omega
    · simp only[dH];omega
theorem yL {m:aj} (hm:VM m) {l:List Ld} (h:dx m none l=true):l.length≤576:=by
  cases l with
  | nil=>simp
  | cons x r =>
    rw[dx] at h
    simp only[bk,decide_eq_true_eq] at h
    obtain ⟨a,b,c,d⟩:=Ry hm h.1.1.1
    rcases Rz hm h.2 ⟨a,c,d⟩ with rfl | h5
    · simp
    · simp only[dH];omega
theorem nZ {m:aj}:∀ {l:List Ld} {q:Option Ld},dx m q l=true→∀ x∈l,g7 m x.cls x.opt=true∧1≤x.wt∧x.wt≤1000
  | [],_,_,c,hc=>by simp at hc
  | x::r,q,h,c,hc=>by
    rw[dx.eq_def] at h
    simp only[bk,decide_eq_true_eq] at h
    rcases cu.1 hc with rfl | hc
    · exact⟨h.1.1.1,h.1.1.2⟩
    · exact nZ h.2 c hc
theorem Hp {m:aj} {plan:List Int}:∀ {l:List Ld},(∀ x∈l,1≤x.wt∧x.wt≤1000)→∀ n,n≤iU plan l n∧iU plan l n≤n+1000 * l.length
  | [],_,n=>by simp[iU]
  | x::r,h,n=>by
    have hx:=h x (by simp)
    rw[iU]
    have:=Hp (m:=m) (plan:=plan) (l:=r) (fun y hy=>h y (by simp[hy])) (if plan.getD x.cls.toNat 0=x.opt then n+x.wt else n)
    simp only[dH]
    split at this<;>split<;>simp_all<;>omega
theorem yU {most bL sum:Int} (h:bF bL):bF (jk most bL sum):=by
  unfold jk bF at *
  split
  · omega
  · have:0≤(sum - most) * bL:=p6 (by omega) h.1
    omega
theorem RA {R:Int}:∀ {l:List (Int × Int)} {out:List Int},gR R out→(∀ c∈l,iR c.2=true)→gR R (ng l out)
  | [],_,h,_=>h
  | c::r,out,h,hc=>by rw[ng];exact RA (h.add (jY (hc c (by simp)))) fun x hx=>hc x (by simp[hx])
theorem RC {m:aj}:∀ {plan:List Int} {i:Nat},qI m i plan=true→∀ j,j<plan.length→plan.getD j 0 = -1∨g7 m ((i+j:Nat):Int) (plan.getD j 0)=true
  | [],_,_,j,hj=>by simp at hj
  | o::r,i,h,j,hj=>by
    rw[qI] at h
    simp only[bk,Bool.or_eq_true,decide_eq_true_eq] at h
    cases j with
    | zero=>rw[gb];exact h.1
    | succ j =>
      rw[eJ]
      have:=RC h.2 j (by simpa using hj)
      rwa [show i+1+j=i+(j+1) by omega] at this
structure PM (m:aj) (plan:List Int):Prop where
  len:plan.length=m.cls.length
  get:∀ j,j<plan.length→plan.getD j 0 = -1∨g7 m (j:Nat) (plan.getD j 0)=true
theorem RD {m:aj} {plan:List Int} (h:oX m plan=true):PM m plan:=by
  unfold oX at h
  split at h
  · simp at h
  · refine⟨by omega,fun j hj=>?_⟩
    have:=RC h j hj
    rwa [fi] at this
theorem kJ {m:aj} {p:Pr} (h:eW m p=true):(0≤p.aV∧p.aV<m.rules)∧0≤p.fst∧p.fst<p.snd∧p.snd<m.cls.length∧(p.az.length:Int)=(m.cls.getD p.fst.toNat default).length * (m.cls.getD p.snd.toNat default).length:=by
  unfold eW iu at h
  simp only[bk,decide_eq_true_eq] at h
  exact⟨h.1.1,h.1.2⟩
theorem uh {x y a b:Int} (hx:0≤x∧x<a) (hy:0≤y∧y<b) (ha:a≤24) (hb:b≤24):0≤x * b∧x * b≤576∧x * b+y<a * b:=by
  have h1:0≤x * b:=p6 hx.1 (by omega)
  have h2:x * b≤(a - 1) * b:=Int.mul_le_mul_of_nonneg_right (by omega) (by omega)
  have h3:(a - 1) * b=a * b - b:=by rw[Int.sub_mul,Int.one_mul]
  have h4:a * b≤24 * 24:=pj ha hb (by omega) (by omega)
  omega
theorem lj {m:aj} {c:Ct} (h:fY m c=true):(0≤c.aV∧c.aV<m.rules)∧(0≤c.most∧c.most≤1048576)∧iR c.bL=true∧dx m none c.aS=true:=by
  unfold fY iu at h
  simp only[bk,decide_eq_true_eq] at h
  exact⟨h.1.1.1,h.1.1.2,h.1.2,h.2⟩
theorem yV {m:aj} {p:Pr} (hp:eW m p=true) (x y:Int):bF (lk m p x y):=by
  unfold lk
  rcases eF (x * (m.cls.getD p.snd.toNat default).length+y).toNat p.az.length with h | h
  · unfold eW at hp
    simp only[bk,kx,Fs] at hp
    have:=hp.2 _ (aC (d:=0) h)
    unfold nf at this
    simp only[bk,decide_eq_true_eq,kx,not_and,Bool.not_eq_false] at this
    generalize p.az.getD (x * (m.cls.getD p.snd.toNat default).length+y).toNat 0=n at *
    by_cases h0:n=0
    · subst h0;unfold bF;decide
    · exact jY (this h0)
  · rw[aA,eS h];unfold bF;decide
theorem RE {R:Int} {c:Int × Int}:∀ {l:List (Int × Int)} {q:Option (Int × Int)},dj R q l=true→iu R c.1=true→iR c.2=true→(∀ x∈l,x.1<c.1)→(∀ y,q=some y→y.1<c.1)→dj R q (l++[c])=true
  | [],q,_,h1,h2,_,h3=>by
    rw[dh,dj.eq_def]
    cases q with
    | none=>simp[h1,h2,dj]
    | some y=>simp[h1,h2,dj,h3 y rfl]
  | x::r,q,h,h1,h2,h3,h4=>by
    rw[dj.eq_def] at h
    simp only[bk] at h
    rw[da,dj.eq_def]
    simp only[bk]
    exact⟨h.1,RE h.2 h1 h2 (fun y hy=>h3 y (by simp[hy])) (fun y hy=>by simp only[cY.injEq] at hy;subst hy;exact h3 _ (by simp))⟩
theorem RF {m:aj} {c:Pr}:∀ {l:List Pr} {q:Option Pr},ee m q l=true→eW m c=true→(∀ x∈l,mJ x c<0)→(∀ y,q=some y→mJ y c<0)→ee m q (l++[c])=true
  | [],q,_,h1,_,h3=>by
    rw[dh,ee.eq_def]
    cases q with
    | none=>simp[h1,ee]
    | some y=>simp[h1,ee,h3 y rfl]
  | x::r,q,h,h1,h3,h4=>by
    rw[ee.eq_def] at h
    simp only[bk] at h
    rw[da,ee.eq_def]
    simp only[bk]
    exact⟨h.1,RF h.2 h1 (fun y hy=>h3 y (by simp[hy])) (fun y hy=>by simp only[cY.injEq] at hy;subst hy;exact h3 _ (by simp))⟩
theorem RG {m:aj} {c:Ld}:∀ {l:List Ld} {q:Option Ld},dx m q l=true→g7 m c.cls c.opt=true→(1≤c.wt∧c.wt≤1000)→(∀ x∈l,rP x c<0)→(∀ y,q=some y→rP y c<0)→dx m q (l++[c])=true
  | [],q,_,h1,h2,_,h3=>by
    rw[dh,dx.eq_def]
    cases q with
    | none=>simp[h1,h2,dx]
    | some y=>simp[h1,h2,dx,h3 y rfl]
  | x::r,q,h,h1,h2,h3,h4=>by
    rw[dx.eq_def] at h
    simp only[bk] at h
    rw[da,dx.eq_def]
    simp only[bk]
    exact⟨h.1,RG h.2 h1 h2 (fun y hy=>h3 y (by simp[hy])) (fun y hy=>by simp only[cY.injEq] at hy;subst hy;exact h3 _ (by simp))⟩
theorem RH {cls:List (List bx)} {R:Int} {a b:List Pr} {c d:List Ct}:∀ (l:List Pr) (q:Option Pr),ee ⟨cls,a,c,R⟩ q l=ee ⟨cls,b,d,R⟩ q l
  | [],_=>rfl
  | x::r,q=>by
    have:=RH (cls:=cls) (R:=R) (a:=a) (b:=b) (c:=c) (d:=d) r (some x)
    cases q<;>simp only[ee,this]<;>rfl
theorem RJ {cls:List (List bx)} {R:Int} {a b:List Pr} {c d:List Ct}:∀ (l:List Ld) (q:Option Ld),dx ⟨cls,a,c,R⟩ q l=dx ⟨cls,b,d,R⟩ q l
  | [],_=>rfl
  | x::r,q=>by
    have:=RJ (cls:=cls) (R:=R) (a:=a) (b:=b) (c:=c) (d:=d) r (some x)
    cases q<;>simp only[dx,this]<;>rfl
theorem aaN {cls:List (List bx)} {R:Int} {a b:List Pr} {c d:List Ct} (x:Ct):fY ⟨cls,a,c,R⟩ x=fY ⟨cls,b,d,R⟩ x:=by
  unfold fY;rw[RJ (a:=a) (b:=b) (c:=c) (d:=d)]
theorem Hq (L:List Int) (k:Nat):0≤n7 L k∧n7 L k≤1099511627776∧(0<n7 L k→iR (n7 L k)=true):=by
  have h6:=mf (L:=L) (k:=k) (n:=6) (by omega)
  have h20:=mf (L:=L) (k:=cU L k) (n:=20) (by omega)
  unfold n7
  split
  · exact⟨by omega,by omega,by omega⟩
  · split
    · exact⟨by omega,by omega,fun _=>by decide⟩
    · refine⟨by omega,by omega,fun _=>?_⟩
      rw[iR,decide_eq_true_eq];omega
theorem Hs {L:List Int} {k:Nat} (h:k≤L.length):s9 L k≤L.length:=by
  unfold s9;split
  · exact gw h
  · exact gw (gw h)
structure MM (m:aj) (n8 options:Nat):Prop where
  vm:VM m
  l7:m.cls.length≤n8
  some:∀ l∈m.cls,1≤l.length∧l.length≤options
  im:1≤m.rules∧m.rules≤4
  au:m.au.length≤2
theorem VM.mb {m:aj} (h:VM m):MB m:=by
  refine⟨by have:=h.cls;omega,fun l hl=>by have:=h.opt l hl;omega,fun l hl o ho=>?_,by have:=h.ae;omega,fun p hp=>?_,by have:=h.au;omega,fun c hc=>?_⟩
  · have:=AS h.im.1 (h.kI l hl o ho)
    have:=h.im;omega
  · obtain ⟨_,h1,h2,h3,h4⟩:=kJ (jh h.pr p hp)
    have a:=h.opt _ (aC (l:=m.cls) (i:=p.fst.toNat) (d:=default) (by omega))
    have b:=h.opt _ (aC (l:=m.cls) (i:=p.snd.toNat) (d:=default) (by omega))
    have:((m.cls.getD p.fst.toNat default).length:Int) * (m.cls.getD p.snd.toNat default).length≤24 * 24:=pj (by omega) (by omega) (by omega) (by omega)
    omega
  · have:=yL h (lj (h.ct c hc)).2.2.2
    omega
def cI (L:List Int) (k:Nat) (cls:List (List bx)) (ae:List Pr) (au:List Ct) (R:Int):List Ob :=
  [.var [.tree 1 (ints L),.lit (.int .i64 k)],.var [.lit (.slice none 0 0),.lit (.slice none 0 0),.lit (.slice none 0 0),.lit (.int .i64 0)],
    .var [.ref 3 1 0 cls.length,.ref 4 4 0 ae.length,.ref 5 4 0 au.length,.lit (.int .i64 R)],.arr 1 (rowsOf bD cls),.arr 4 (rowsOf bu ae),.arr 4 (rowsOf aO au)]
def RK (R:Int) (l:List bx):Prop:=∀ o∈l,dj R none o.ch=true
def AZ (p:Pr) (u i k:Nat):Prop:=p.aV<u∨(p.aV=u∧(p.fst<i∨(p.fst=i∧p.snd<k)))
structure uk (cls:List (List bx)) (R:Int) (ae:List Pr) (u i k:Nat):Prop where
  ok:ee ⟨cls,[],[],R⟩ none ae=true
  lt:∀ p∈ae,AZ p u i k
  len:ae.length≤576 * u+24 * i+k
theorem uk.mono {cls:List (List bx)} {R:Int} {ae:List Pr} {u i k u' i' k':Nat} (h:uk cls R ae u i k) (hl:u<u'∨(u=u'∧(i<i'∨(i=i'∧k≤k')))) (hs:576 * u+24 * i+k≤576 * u'+24 * i'+k'):uk cls R ae u' i' k' :=
  ⟨h.ok,fun p hp=>by have:=h.lt p hp;unfold AZ at *;omega,by have:=h.len;omega⟩
theorem uk.app {cls:List (List bx)} {R:Int} {ae:List Pr} {u i k:Nat} (h:uk cls R ae u i k) {az:List Int} (hp:eW ⟨cls,[],[],R⟩ ⟨i,k,u,az⟩=true):uk cls R (ae++[⟨i,k,u,az⟩]) u i (k+1):=by
  refine⟨RF h.ok hp (fun x hx=>?_) (by simp),fun p hp=>?_,by have:=h.len;simp;omega⟩
  · have:=h.lt x hx
    rw[Ho];unfold AZ at this;dsimp only;omega
  · rcases cr.1 hp with hp | hp
    · have:=h.lt p hp;unfold AZ at *;omega
    · simp only[eM] at hp;subst hp;unfold AZ;dsimp only;omega
theorem aaO {cls:List (List bx)} {R:Int} {az:List Int} {i k u:Nat} (hu:(u:Int)<R) (hik:i<k) (hk:k<cls.length) (ht:az.length=(cls.getD i default).length * (cls.getD k default).length) (hc:∀ x∈az,0≤x∧(0<x→iR x=true)) :
    eW ⟨cls,[],[],R⟩ ⟨i,k,u,az⟩=true:=by
  unfold eW iu
  simp only[bk,decide_eq_true_eq,kx,gD,Fs]
  refine⟨⟨⟨by omega,hu⟩,by omega,by omega,by omega,?_⟩,fun x hx=>?_⟩
  · rw[ht];simp
  · unfold nf
    have:=hc x hx
    by_cases h0:x=0
    · subst h0;decide
    · rw[this.2 (by omega)];simp
structure vD (cls:List (List bx)) (R:Int) (l:List Ld) (i k:Nat):Prop where
  ok:dx ⟨cls,[],[],R⟩ none l=true
  lt:∀ x∈l,x.cls<i∨(x.cls=i∧x.opt<k)
  len:l.length≤24 * i+k
theorem vD.mono {cls:List (List bx)} {R:Int} {l:List Ld} {i k i' k':Nat} (h:vD cls R l i k) (hl:i<i'∨(i=i'∧k≤k')) (hs:24 * i+k≤24 * i'+k'):vD cls R l i' k' :=
  ⟨h.ok,fun p hp=>by have:=h.lt p hp;omega,by have:=h.len;omega⟩
theorem vD.app {cls:List (List bx)} {R:Int} {l:List Ld} {i k:Nat} (h:vD cls R l i k) {w:Int} (hi:i<cls.length) (hk:k<(cls.getD i default).length) (hw:1≤w∧w≤1000):vD cls R (l++[⟨i,k,w⟩]) i (k+1):=by
  refine⟨RG h.ok (fZ.2 ⟨by dsimp only;omega,by dsimp only;omega,by dsimp only;omega,by simp;exact hk⟩) hw (fun x hx=>?_) (by simp),fun p hp=>?_,by have:=h.len;simp;omega⟩
  · have:=h.lt x hx
    rw[DV];dsimp only;omega
  · rcases cr.1 hp with hp | hp
    · have:=h.lt p hp;omega
    · simp only[eM] at hp;subst hp;dsimp only;omega
theorem DW:(default:bx).ch=[]:=rfl
theorem RL {m:aj} (hm:VM m):∀ (plan:List Int) (i:Nat) (out:List Int),gR m.rules out→gR m.rules (mg m i plan out)
  | [],_,_,h=>h
  | o::r,i,out,h=>by
    rw[mg]
    refine RL hm r (i+1) _ ?_
    split
    · exact h
    · refine RA h fun c hc=>?_
      rcases eF i m.cls.length with hi | hi
      · have hl:=aC (d:=(default:List bx)) hi
        generalize m.cls.getD i default=l at *
        rcases eF o.toNat l.length with ho | ho
        · exact (uj (hm.kI l hl _ (aC ho)) c hc).2
        · rw[show l.getD o.toNat default=default by rw[aA,eS ho];rfl] at hc
          exact absurd hc (by rw[DW];simp)
      · rw[show m.cls.getD i default=[] by rw[aA,eS hi];rfl] at hc
        exact absurd hc (by rw[List.getD_nil,DW];simp)
theorem RM {m:aj} {plan:List Int}:∀ (l:List Pr) (out:List Int),(∀ p∈l,eW m p=true)→gR m.rules out→gR m.rules (lL m plan l out)
  | [],_,_,h=>h
  | p::r,out,hp,h=>by
    rw[lL]
    refine RM r _ (fun q hq=>hp q (by simp[hq])) ?_
    split
    · exact h.add (yV (hp p (by simp)) _ _)
    · exact h
theorem RN {m:aj} {plan:List Int}:∀ (l:List Ct) (out:List Int),(∀ c∈l,fY m c=true)→gR m.rules out→gR m.rules (mh plan l out)
  | [],_,_,h=>h
  | c::r,out,hp,h=>by
    rw[mh]
    exact RN r _ (fun q hq=>hp q (by simp[hq])) (h.add (yU (jY (lj (hp c (by simp))).2.2.1)))
theorem DX {m:aj} (hm:VM m) (plan:List Int):gR m.rules (gQ m plan) :=
  RN _ _ hm.ct (RM _ _ (jh hm.pr) (RL hm _ _ _ (gR.rep hm.im.1)))
def iV:List Int→Int
  | []=>0
  | x::r=>x+iV r
theorem Ht:∀ {l:List Int},(∀ x∈l,bF x)→0≤iV l∧iV l≤1099511627776 * l.length
  | [],_=>by simp[iV]
  | x::r,h=>by
    have:=Ht fun y hy=>h y (List.mem_cons_of_mem x hy)
    have:=h x (by simp)
    unfold bF at this
    simp only[iV,dH];omega
theorem DY:∀ {l:List Int} {n:Int},(∀ x∈l,bF x)→bF n→iF l n=min (n+iV l) 1099511627776
  | [],n,_,hn=>by unfold bF at hn;simp only[iF,iV];omega
  | x::r,n,h,hn=>by
    have hx:=h x (by simp)
    have hr:∀ y∈r,bF y:=fun y hy=>h y (by simp[hy])
    rw[iF,DY hr (xd hn hx)]
    have:=Ht hr
    unfold bF at hx hn
    simp only[dw,iV];omega
theorem Hu:∀ {l:List Int},(∀ x∈l,bF x)→∀ x∈l,x≤iV l
  | [],_,x,hx=>by simp at hx
  | y::r,h,x,hx=>by
    have hr:∀ z∈r,bF z:=fun z hz=>h z (by simp[hz])
    have:=(Ht hr).1
    have hy:=h y (by simp)
    unfold bF at hy
    rcases cu.1 hx with rfl | hx
    · simp only[iV];omega
    · have:=Hu hr x hx;simp only[iV];omega
def jB:List Ld→Int→Int→Int→Int
  | [],_,_,w=>w
  | x::r,c,o,w=>jB r c o (if x.cls=c∧x.opt=o then x.wt else w)
def jC (l:List Ld) (c:Int):Nat→List Bool→Int→Int
  | _,[],b=>b
  | o,is::r,b=>jC l c (o+1) r (if is=true∧(b<0∨jB l c o 0<b) then jB l c o 0 else b)
def n9 (l:List Ld) (c:Int) (row:List Bool):Int:=max (jC l c 0 row (-1)) 0
def rQ (l:List Ld):Nat→List (List Bool)→Int→Int
  | _,[],n=>n
  | i,row::r,n=>rQ l (i+1) r (n+n9 l i row)
def oa (left:List (List Bool)) (c:Ct):Int:=jk c.most c.bL (rQ c.aS 0 left 0)
theorem aaP (l:List Ld) (x:Ld) (c o:Int):∀ w,jB (l++[x]) c o w=if x.cls=c∧x.opt=o then x.wt else jB l c o w:=by
  induction l with
  | nil=>intro w;rfl
  | cons y r ih=>intro w;exact ih _
theorem Hv:∀ {l:List Ld} {c:Int} (o w:Int),(∀ x∈l,x.cls≠c)→jB l c o w=w
  | [],_,_,_,_=>rfl
  | x::r,c,o,w,h=>by
    rw[jB,if_neg (fun e=>h x (by simp) e.1)]
    exact Hv o w fun y hy=>h y (by simp[hy])
theorem yW {l:List Ld} (h:∀ x∈l,1≤x.wt∧x.wt≤1000) (c o:Int):∀ w,0≤w∧w≤1000→0≤jB l c o w∧jB l c o w≤1000:=by
  induction l with
  | nil=>intro w hw;exact hw
  | cons x r ih =>
    intro w hw
    rw[jB]
    refine ih (fun y hy=>h y (by simp[hy])) _ ?_
    have:=h x (by simp)
    split<;>omega
theorem RO {l:List Ld} {c:Int} (h:∀ x∈l,x.cls≠c):∀ (row:List Bool) (o:Nat) (b:Int),-1≤b∧b≤0→-1≤jC l c o row b∧jC l c o row b≤0
  | [],_,b,hb=>hb
  | is::r,o,b,hb=>by
    rw[jC]
    refine RO h r (o+1) _ ?_
    rw[Hv _ _ h]
    split<;>omega
theorem RQ {l:List Ld} {c:Int} (h:∀ x∈l,x.cls≠c) (row:List Bool):n9 l c row=0:=by
  have:=RO h row 0 (-1) (by omega)
  unfold n9;omega
theorem RS {l:List Ld} (h:∀ x∈l,1≤x.wt∧x.wt≤1000) (c:Int):∀ (row:List Bool) (o:Nat) (b:Int),-1≤b∧b≤1000→-1≤jC l c o row b∧jC l c o row b≤1000
  | [],_,b,hb=>hb
  | is::r,o,b,hb=>by
    rw[jC]
    refine RS h c r (o+1) _ ?_
    have:=yW h c o 0 (by omega)
    split<;>omega
theorem aaQ {l:List Ld} (h:∀ x∈l,1≤x.wt∧x.wt≤1000) (c:Int) (row:List Bool):0≤n9 l c row∧n9 l c row≤1000:=by
  have:=RS h c row 0 (-1) (by omega)
  unfold n9;omega
def bj (f:Nat→Int):Nat→Int
  | 0=>0
  | n+1=>bj f n+f n
theorem jD {f g:Nat→Int}:∀ (n:Nat),(∀ i<n,f i=g i)→bj f n=bj g n
  | 0,_=>rfl
  | n+1,h=>by rw[bj,bj,jD n fun i hi=>h i (by omega),h n (by omega)]
theorem Hw {f:Nat→Int} {B:Int}:∀ (n:Nat),(∀ i<n,0≤f i∧f i≤B)→0≤bj f n∧bj f n≤B * n
  | 0,_=>by simp[bj]
  | n+1,h=>by
    have h1:=Hw n fun i hi=>h i (by omega)
    have h2:=h n (by omega)
    rw[bj,Int.natCast_add,Int.mul_add]
    simp only[Int.cast_ofNat_Int,Int.mul_one]
    omega
theorem yX (f:Nat→Int) (k:Nat) (v:Int):∀ (n:Nat),bj (fun i=>if i=k then f i+v else f i) n=bj f n+if k<n then v else 0
  | 0=>by simp[bj]
  | n+1=>by
    rw[bj,bj,yX f k v n]
    by_cases h:n=k
    · subst h;rw[if_pos rfl,if_neg (by omega),if_pos (by omega)];omega
    · rw[if_neg h]
      by_cases h2:k<n
      · rw[if_pos h2,if_pos (by omega)];omega
      · rw[if_neg h2,if_neg (by omega)];omega
theorem xe (f:Nat→Int):∀ n,bj f (n+1)=f 0+bj (fun i=>f (i+1)) n
  | 0=>by simp[bj]
  | n+1=>by rw[bj,xe f n,bj];omega
theorem yY (l:List Ld):∀ (left:List (List Bool)) (i:Nat) (n:Int),rQ l i left n=n+bj (fun j=>n9 l (i+j:Nat) (left.getD j [])) left.length
  | [],i,n=>by simp[rQ,bj]
  | row::r,i,n=>by
    rw[rQ,yY l r (i+1),dH,xe]
    simp only[gb,eJ,Nat.add_zero]
    rw[jD (g:=fun j=>n9 l (i+(j+1):Nat) (r.getD j [])) r.length fun j _=>by rw[show i+1+j=i+(j+1) by omega]]
    omega
theorem aaR {l:List Ld} (h:∀ x∈l,1≤x.wt∧x.wt≤1000) (left:List (List Bool)):0≤rQ l 0 left 0∧rQ l 0 left 0≤1000 * left.length:=by
  rw[yY,wg]
  exact Hw _ fun i _=>aaQ h _ _
abbrev od:=Int × Nat × List (Int × Int)
def vE (es:List (Int × Int)):List (Int × Value):=es.map fun p=>(p.1,.int .i64 p.2)
def gE (A:List od):List (Int × Value):=A.map fun e=>(e.1,.map (some e.2.1))
def xf (o w:Int):List (Int × Int)→List (Int × Int)
  | []=>[(o,w)]
  | p::r=>if p.1=o then (o,w)::r else p::xf o w r
def vF (o:Int):List (Int × Int)→Int
  | []=>0
  | p::r=>if p.1=o then p.2 else vF o r
theorem RT (o w:Int):∀ es,sR o (.int .i64 w) (vE es)=vE (xf o w es)
  | []=>rfl
  | p::r=>by
    show sR o _ ((p.1,Value.int .i64 p.2)::vE r)=_
    rw[sR,xf]
    by_cases h:p.1=o
    · rw[if_pos h,if_pos h];rfl
    · rw[if_neg h,if_neg h,RT o w r];rfl
theorem RU (o w x:Int):∀ es,vF x (xf o w es)=if o=x then w else vF x es
  | []=>rfl
  | p::r=>by
    rw[xf]
    by_cases h:p.1=o
    · rw[if_pos h,vF,vF]
      by_cases h2:o=x
      · rw[if_pos h2,if_pos h2]
      · rw[if_neg h2,if_neg h2,if_neg (by omega)]
    · rw[if_neg h,vF,vF,RU o w x r]
      by_cases h2:p.1=x
      · rw[if_pos h2,if_neg (by omega),if_pos h2]
      · rw[if_neg h2,if_neg h2]
theorem RV (c:Int) (b:Nat):∀ A:List od,(∀ e∈A,e.1≠c)→sR c (.map (some b)) (gE A)=gE (A++[(c,b,[])])
  | [],_=>rfl
  | e::r,h=>by
    show sR c _ ((e.1,Value.map (some e.2.1))::gE r)=_
    rw[sR,if_neg (h e (by simp)),RV c b r fun x hx=>h x (by simp[hx])];rfl
structure GI (R:Nat) (dn:List Ld) (A:List od) (b0:Nat) (μ:Mem):Prop where
  top:μ b0=some (.map (iE (gE A)))
  sub:∀ e∈A,μ e.2.1=some (.map (iE (vE e.2.2)))
  yZ:∀ e∈A,e.2.1≠b0
  inj:∀ e∈A,∀ e'∈A,e.2.1=e'.2.1→e=e'
  keys:(A.map (·.1)).Nodup
  val:∀ e∈A,∀ o,vF o e.2.2=jB dn e.1 o 0
  has:∀ x∈dn,∃ e∈A,e.1=x.cls
  y6:∀ e∈A,0≤e.1∧e.1<R
theorem GI.nil {R b0:Nat} {μ:Mem} (h:μ b0=some (.map [])):GI R [] [] b0 μ:=⟨h,by simp,by simp,by simp,by simp,by simp,by simp,by simp⟩
theorem GI.new {R:Nat} {dn:List Ld} {A:List od} {b0:Nat} {μ:Mem} (h:GI R dn A b0 μ) {c:Int} (hcR:0≤c∧c<R) (hc:∀ e∈A,e.1≠c) {b:Nat} (hb:μ b=none):GI R dn (A++[(c,b,[])]) b0 (nT (nT μ b (.map [])) b0 (.map (iE (sR c (.map (some b)) (gE A))))):=by
  have y7:b≠b0:=fun e=>by rw[e,h.top] at hb;cases hb
  have pB:∀ e∈A,e.2.1≠b:=fun e he e2=>by have:=h.sub e he;rw[e2,hb] at this;cases this
  refine⟨by rw[Dp,RV c b A hc],fun e he=>?_,fun e he=>?_,fun e he e' oY hh=>?_,?_,fun e he o=>?_,fun x hx=>?_,fun e he=>?_⟩
  · rcases cr.1 he with he | he
    · rw[vn _ _ (h.yZ e he),vn _ _ (pB e he)];exact h.sub e he
    · simp only[eM] at he;subst he
      rw[vn _ _ y7,Dp];rfl
  · rcases cr.1 he with he | he
    · exact h.yZ e he
    · simp only[eM] at he;subst he;exact y7
  · rcases cr.1 he with he | he<;>rcases cr.1 oY with oY | oY
    · exact h.inj e he e' oY hh
    · simp only[eM] at oY;subst oY;exact absurd hh (pB e he)
    · simp only[eM] at he;subst he;exact absurd hh.symm (pB e' oY)
    · simp only[eM] at he oY;rw[he,oY]
  · rw[List.map_append,List.nodup_append]
    refine⟨h.keys,by simp,fun a ha b' db=>?_⟩
    obtain ⟨e,he,rfl⟩:=ca.1 ha
    simp only[dO,List.map_nil,eM] at db
    rw[db];exact hc e he
  · rcases cr.1 he with he | he
    · exact h.val e he o
    · simp only[eM] at he;subst he
      rw[Hv]
      · rfl
      · intro x hx rB
        obtain ⟨e,he,um⟩:=h.has x hx
        exact hc e he (um.trans rB)
  · obtain ⟨e,he,um⟩:=h.has x hx
    exact⟨e,List.mem_append_left _ he,um⟩
  · rcases cr.1 he with he | he
    · exact h.y6 e he
    · simp only[eM] at he;subst he;exact hcR
def fo (c o w:Int) (A:List od):List od:=A.map fun e=>if e.1=c then (e.1,e.2.1,xf o w e.2.2) else e
theorem aaT (c o w:Int) (A:List od):gE (fo c o w A)=gE A:=by
  unfold gE fo
  rw[uR]
  refine kU fun e _=>?_
  simp only[Function.comp]
  split<;>rfl
theorem GI.put {R:Nat} {dn:List Ld} {A:List od} {b0:Nat} {μ:Mem} (h:GI R dn A b0 μ) {x:Ld} {e0:od} (oL:e0∈A) (hc:e0.1=x.cls):GI R (dn++[x]) (fo x.cls x.opt x.wt A) b0 (nT μ e0.2.1 (.map (iE (sR x.opt (.int .i64 x.wt) (vE e0.2.2))))):=by
  have uniq:∀ e∈A,e.1=x.cls→e=e0:=fun e he hh=>by
    have hk:=h.keys
    obtain ⟨i,hi,rfl⟩:=sh.1 he
    obtain ⟨j,hj,rfl⟩:=sh.1 oL
    have:i=j:=(List.getElem_inj (h₀:=by simpa using hi) (h₁:=by simpa using hj) hk).1 (by simp only[List.getElem_map];rw[hh,hc])
    subst this;rfl
  have one:∀ e∈fo x.cls x.opt x.wt A,(e=(e0.1,e0.2.1,xf x.opt x.wt e0.2.2))∨(e∈A∧e.1≠x.cls):=fun e he=>by
    obtain ⟨e',oY,rfl⟩:=ca.1 he
    by_cases hh:e'.1=x.cls
    · left;rw[if_pos hh,uniq e' oY hh]
    · right;rw[if_neg hh];exact⟨oY,hh⟩
  have pB:∀ e∈A,e.1≠x.cls→e.2.1≠e0.2.1:=fun e he hh e2=>hh (by rw[h.inj e he e0 oL e2,hc])
  refine⟨by rw[vn _ _ (h.yZ e0 oL).symm,aaT];exact h.top,fun e he=>?_,fun e he=>?_,fun e he e' oY hh=>?_,?_,fun e he o=>?_,fun y hy=>?_,fun e he=>?_⟩
  · rcases one e he with rfl | ⟨h1,h2⟩
    · rw[Dp,RT]
    · rw[vn _ _ (pB e h1 h2)];exact h.sub e h1
  · rcases one e he with rfl | ⟨h1,h2⟩
    · exact h.yZ e0 oL
    · exact h.yZ e h1
  · rcases one e he with rfl | ⟨h1,h2⟩<;>rcases one e' oY with rfl | ⟨h3,h4⟩
    · rfl
    · exact absurd hh.symm (pB e' h3 h4)
    · exact absurd hh (pB e h1 h2)
    · exact h.inj e h1 e' h3 hh
  · have:(fo x.cls x.opt x.wt A).map (·.1)=A.map (·.1):=by
      unfold fo
      rw[uR]
      refine kU fun e _=>?_
      simp only[Function.comp]
      split<;>rfl
    rw[this];exact h.keys
  · rw[aaP]
    rcases one e he with rfl | ⟨h1,h2⟩
    · dsimp only
      rw[RU,h.val e0 oL o]
      by_cases ho:x.opt=o
      · rw[if_pos ho,if_pos ⟨hc.symm,ho⟩]
      · rw[if_neg ho,if_neg (fun e=>ho e.2)]
    · rw[if_neg (fun e=>h2 e.1.symm)];exact h.val e h1 o
  · have mem:∀ e∈A,∃ e'∈fo x.cls x.opt x.wt A,e'.1=e.1:=fun e he=>⟨_,List.mem_map_of_mem he,by split<;>rfl⟩
    rcases cr.1 hy with hy | hy
    · obtain ⟨e,he,um⟩:=h.has y hy
      obtain ⟨e',k1,k2⟩:=mem e he
      exact⟨e',k1,k2.trans um⟩
    · simp only[eM] at hy;subst hy
      obtain ⟨e',k1,k2⟩:=mem e0 oL
      exact⟨e',k1,k2.trans hc⟩
  · rcases one e he with rfl | ⟨h1,h2⟩
    · exact h.y6 e0 oL
    · exact h.y6 e h1
def y8 (f:Int→Int):List od→Int
  | []=>0
  | e::r=>f e.1+y8 f r
theorem Hx (f:Int→Int) (n:Nat):∀ A:List od,(A.map (·.1)).Nodup→(∀ e∈A,0≤e.1∧e.1<n)→y8 f A=bj (fun i=>if∃e∈A,e.1=(i:Int) then f i else 0) n
  | [],_,_=>by
    rw[jD (g:=fun _=>0) n (fun i _=>by simp)]
    have:∀ n,bj (fun _=>0) n=0:=fun n=>by induction n with | zero=>rfl | succ n ih=>rw[bj,ih];rfl
    rw[this];rfl
  | e::r,hn,hr=>by
    rw[dO,List.nodup_cons] at hn
    rw[y8,Hx f n r hn.2 fun x hx=>hr x (by simp[hx])]
    have h0:=hr e (by simp)
    have aaU:¬∃x∈r,x.1=((e.1.toNat:Nat):Int):=by
      rintro ⟨x,hx,hh⟩
      rw[po h0.1] at hh
      exact hn.1 (ca.2 ⟨x,hx,hh⟩)
    have:=yX (fun i=>if∃x∈r,x.1=(i:Int) then f i else 0) e.1.toNat (f e.1) n
    rw[if_pos (by omega)] at this
    rw[Int.add_comm,← this]
    refine jD n fun i hi=>?_
    by_cases h:i=e.1.toNat
    · subst h
      rw[if_pos rfl,if_neg aaU,if_pos ⟨e,by simp,by omega⟩,po h0.1];omega
    · rw[if_neg h]
      have:(∃ x∈e::r,x.1=(i:Int))↔∃ x∈r,x.1=(i:Int):=by
        constructor
        · rintro ⟨x,hx,hh⟩
          rcases cu.1 hx with rfl | hx
          · omega
          · exact⟨x,hx,hh⟩
        · rintro ⟨x,hx,hh⟩;exact⟨x,by simp[hx],hh⟩
      simp only[this]
theorem RW:∀ A:List od,y8 (fun _=>1) A=A.length
  | []=>rfl
  | e::r=>by rw[y8,RW r,dH];omega
theorem GI.len {R:Nat} {dn:List Ld} {A:List od} {b0:Nat} {μ:Mem} (h:GI R dn A b0 μ):A.length≤R:=by
  have h1:=Hx (fun _=>1) R A h.keys h.y6
  rw[RW] at h1
  have h2:=Hw (f:=fun i=>if∃e∈A,e.1=(i:Int) then (1:Int) else 0) (B:=1) R fun i _=>by split<;>omega
  omega
theorem GI.sum {dn:List Ld} {A:List od} {b0:Nat} {μ:Mem} {left:List (List Bool)} (h:GI left.length dn A b0 μ):y8 (fun c=>n9 dn c (left.getD c.toNat [])) A=rQ dn 0 left 0:=by
  rw[Hx _ left.length A h.keys h.y6,yY,wg]
  refine jD _ fun i _=>?_
  simp only[fi,gD]
  by_cases hh :∃e∈A,e.1=(i:Int)
  · rw[if_pos hh]
  · rw[if_neg hh,RQ]
    intro x hx rB
    obtain ⟨e,he,um⟩:=h.has x hx
    exact hh ⟨e,he,um.trans rB⟩
theorem GI.other {R:Nat} {dn:List Ld} {A:List od} {b0:Nat} {μ:Mem} (h:GI R dn A b0 μ) {r:Nat} (g:Gh) (hr:∀ l,μ r≠some (.map l)):GI R dn A b0 (nT μ r g) :=
  ⟨by rw[vn _ _ (fun e=>hr _ (e ▸ h.top))];exact h.top,fun e he=>by rw[vn _ _ (fun e2=>hr _ (e2 ▸ h.sub e he))];exact h.sub e he,h.yZ,h.inj,h.keys,h.val,h.has,h.y6⟩
end T

