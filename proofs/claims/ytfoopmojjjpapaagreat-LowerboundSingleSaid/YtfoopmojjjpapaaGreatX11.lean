import Derived.Test.YtfoopmojjjpapaaGreatX09
set_option linter.all false
set_option maxHeartbeats 0
set_option maxRecDepth 20000
open Int renaming tmod_eq_emod_of_nonneg→Qd,mul_nonneg→sw,mul_le_mul_of_nonneg_right→GJ,mul_le_mul→p8,le_refl→mY
open List renaming getD_eq_getElem?_getD→az,getElem?_eq_getElem→bF,getElem_mem→tG,replicate→aK,getElem?_eq_none→dK,length_set→bJ,mem_or_eq_of_mem_set→su,eq_of_mem_replicate→Cb,any_eq_true→u6,mem_cons→bw,length_cons→dq,length_nil→o8,any_eq_false→Az,nil_append→eC,cons_append→dx,mem_append→cG,mem_singleton→cV
open Nat renaming lt_or_ge→dP
open Bool renaming and_eq_true→bb,not_eq_true'→kz
open Option renaming some→cA
open Go Go.Am
namespace T
def Rc:=aav @cH @gw @SA @SD @LQ @LS @wR
def cR(x:Int):Prop:=-9223372036854775808<=x/\x<=9223372036854775807
def ur(n m:Int):Int:=if m<1 then 0 else n%m
def L6(n m:Int)(hm:0<m):0<=ur n m/\ur n m<m:=by
 unfold ur;rw[if_neg GK];exact⟨Int.emod_nonneg _ GK,Int.emod_lt_of_pos _ GK⟩
def MQ(n m:Int)(hm:0<m):(n.tmod m<0->n%m=n.tmod m+m)/\(0<=n.tmod m->n%m=n.tmod m)/\-m<n.tmod m/\n.tmod m<m:=by
 have h1:=Int.emod_nonneg n (show m≠0 by omega);have h2:=Int.emod_lt_of_pos n hm;rcases Int.lt_or_le n 0 with hn|hn
 ·have h3:n.tmod m = -((-n)%m):=by
   have:=Int.neg_tmod (a:=-n) (b:=m);rw[Int.neg_neg]at this;rw[this,Qd GK]
  have h4:=Int.emod_nonneg (-n) (show m≠0 by omega);have h5:=Int.emod_lt_of_pos (-n) hm;have h6:=Int.mul_ediv_add_emod n m;have h7:=Int.mul_ediv_add_emod (-n) m;have key:(n%m=0/\(-n)%m=0)\/n%m=m-(-n)%m:=by
   by_cases hz:(-n)%m=0
   ·left;have hd:m ∣ -n:=Int.dvd_of_emod_eq_zero hz;have vo:m ∣ n:=(Int.dvd_neg).1 hd;exact⟨Int.emod_eq_zero_of_dvd vo,hz⟩
   ·right;have:n=m*(-((-n)/m)-1)+(m-(-n)%m):=by
     have : -n=m*((-n)/m)+(-n)%m:=h7.symm;rw[Int.mul_sub,Int.mul_neg];omega
    rw[this,Int.mul_add_emod_self_left];rw[<- this];exact Int.emod_eq_of_lt GK GK
  rw[h3];refine⟨?_,?_,?_,?_⟩<;>omega
 ·rw[Qd hn];refine⟨?_,?_,?_,?_⟩<;>omega
def ef(L:List Int)(Dj:Nat)(n:Int):Int:=if Dj >= L.length then 0 else ur (L.getD Dj 0) n
def cK(L:List Int)(Dj:Nat):Nat:=if Dj >= L.length then Dj else Dj+1
def fH{L:List Int}{k:Nat}(h:k<=L.length):cK L k<=L.length:=by unfold cK;split<;>omega
def j4{L:List Int}{k:Nat}{n:Int}(h:0<n):0<=ef L k n/\ef L k n<n:=by
 unfold ef;split
 ·omega
 ·exact L6 _ _ h
def CT(L:List Int)(k:Nat)(n:Int):Bool:=decide (ef L k n=n-1)
def aF{α:Type}{l:List α}{i:Nat}{d:α}(h:i<l.length):l.getD i d∈l:=by
 rw[az,bF h];exact tG h
def eB(a b:Int):Int:=min (a+b) 1099511627776
def jO(n:Int):Bool:=decide ((1<=n/\n<=1048576)\/n=1099511627776)
def j8(R n:Int):Bool:=decide (0<=n/\n<R)
def hZ(m:ah)(c o:Int):Bool:=decide (0<=c/\c<m.cls.length/\0<=o/\o<(m.cls.getD c.toNat default).length)
def kQ(a b:Int):Int:=if a<b then -1 else if b<a then 1 else 0
def rN:List Int->Int
 |[]=>0
 |x::r=>if x≠0 then x else rN r
def lK(most cf sum:Int):Int:=if sum<=most then 0 else min ((sum-most)*cf) 1099511627776
def Dk(n c:Int):Int:=if n<=0 then 0 else if 1099511627776<=c then 1099511627776 else min (n*c) 1099511627776
def qF(L:List Int)(k:Nat):Int:=if ef L k 6<3 then 0 else if ef L k 6=3 then 1099511627776 else 1+ef L (cK L k) 20
def xh(L:List Int)(k:Nat):Nat:=if ef L k 6<=3 then cK L k else cK L (cK L k)
def rO{α:Type}[Inhabited α](l:List α)(k:Nat):Option α:=if k=0 then none else some (l.getD (k-1) default)
def eK(R:Int):Option (Int×Int)->List (Int×Int)->Bool
 |_,[]=>true
 |q,c::r=>(j8 R c.1&&jO c.2&&(match q with|none=>true|some q=>decide (q.1<c.1)))&&eK R (some c) r
def oh(a b:Pr):Int:=rN [kQ a.ee b.ee,kQ a.fst b.fst,kQ a.snd b.snd]
def pK(n:Int):Bool:=decide (n≠0)&&!jO n
def hJ(m:ah)(p:Pr):Bool:=j8 m.rules p.ee&&decide (0<=p.fst/\p.fst<p.snd/\p.snd<m.cls.length/\(p.ay.length:Int)=(m.cls.getD p.fst.toNat default).length*(m.cls.getD p.snd.toNat default).length)&&!p.ay.any pK
def fS(m:ah):Option Pr->List Pr->Bool
 |_,[]=>true
 |q,p::r=>(hJ m p&&(match q with|none=>true|some q=>decide (oh q p<0)))&&fS m (some p) r
def vN(a b:Ld):Int:=rN [kQ a.cls b.cls,kQ a.opt b.opt]
def eO(m:ah):Option Ld->List Ld->Bool
 |_,[]=>true
 |q,x::r=>(hZ m x.cls x.opt&&decide (1<=x.wt/\x.wt<=1000)&&(match q with|none=>true|some q=>decide (vN q x<0)))&&eO m (some x) r
def jv(m:ah)(c:Ct):Bool:=j8 m.rules c.ee&&decide (0<=c.most/\c.most<=1048576)&&jO c.cf&&eO m none c.bh
def uD(m:ah):Bool:=decide (24<m.cls.length\/m.cls.any (λl=>decide (24<l.length))=true\/4000<m.ae.length\/800<m.aD.length\/m.rules<0\/56<m.rules)
def iR(m:ah):Int:=if uD m=true then 2 else if(m.cls.any λl=>l.any λo=>!eK m.rules none o.ch)=true then 1 else if fS m none m.ae=false then 1 else if(m.aD.any λc=>!jv m c)=true then 1 else 0
def yw{α:Type}[Inhabited α](l:List α)(k:Nat):rO l (k+1)=some (l.getD k default):=by simp[rO]
def UR{R:Int}{l r:List (Int×Int)}{k:Nat}{c:Int×Int}:eK R (rO l k) (c::r)=((j8 R c.1&&jO c.2&&(decide (k=0)||decide ((l.getD (k-1) default).1<c.1)))&&eK R (some c) r):=by
 by_cases h:k=0<;>simp[rO,h,eK]
def US{m:ah}{l r:List Pr}{k:Nat}{p:Pr}:fS m (rO l k) (p::r)=((hJ m p&&(decide (k=0)||decide (oh (l.getD (k-1) default) p<0)))&&fS m (some p) r):=by
 by_cases h:k=0<;>simp[rO,h,fS]
def UT{m:ah}{l r:List Ld}{k:Nat}{x:Ld}:eO m (rO l k) (x::r)=((hZ m x.cls x.opt&&decide (1<=x.wt/\x.wt<=1000)&&(decide (k=0)||decide (vN (l.getD (k-1) default) x<0)))&&eO m (some x) r):=by
 by_cases h:k=0<;>simp[rO,h,eO]
structure MB(m:ah):Prop where
 cls:m.cls.length<9223372036854775808
 opt:∀ l∈m.cls,l.length<9223372036854775808
 ch:∀ l∈m.cls,∀ o∈l,o.ch.length<9223372036854775808
 ae:m.ae.length<9223372036854775808
 ay:∀ p∈m.ae,p.ay.length<9223372036854775808
 aD:m.aD.length<9223372036854775808
 mo:∀ c∈m.aD,c.bh.length<9223372036854775808
def iJ(out:List Int)(r c:Int):List Int:=out.set r.toNat (eB (out.getD r.toNat 0) c)
def C9:List (Int×Int)->List Int->List Int
 |[],out=>out
 |c::r,out=>C9 r (iJ out c.1 c.2)
def C'(m:ah):Nat->List Int->List Int->List Int
 |_,[],out=>out
 |i,o::r,out=>C' m (i+1) r (if o<0 then out else C9 ((m.cls.getD i default).getD o.toNat default).ch out)
def yq(m:ah)(p:Pr)(x y:Int):Int:=p.ay.getD (x*(m.cls.getD p.snd.toNat default).length+y).toNat 0
def Da(m:ah)(plan:List Int):List Pr->List Int->List Int
 |[],out=>out
 |p::r,out=>Da m plan r (if 0<=plan.getD p.fst.toNat 0/\0<=plan.getD p.snd.toNat 0 then iJ out p.ee (yq m p (plan.getD p.fst.toNat 0) (plan.getD p.snd.toNat 0)) else out)
def zN(plan:List Int):List Ld->Int->Int
 |[],n=>n
 |x::r,n=>zN plan r (if plan.getD x.cls.toNat 0=x.opt then n+x.wt else n)
def Db(plan:List Int):List Ct->List Int->List Int
 |[],out=>out
 |c::r,out=>Db plan r (iJ out c.ee (lK c.most c.cf (zN plan c.bh 0)))
def wW:List Int->Int->Int
 |[],n=>n
 |x::r,n=>wW r (eB n x)
def zF(m:ah)(plan:List Int):List Int:=Db plan m.aD (Da m plan m.ae (C' m 0 plan (aK m.rules.toNat 0)))
def bT(x:Int):Prop:=0<=x/\x<=1099511627776
def E1{a b:Int}(ha:bT a)(hb:bT b):bT (eB a b):=by unfold bT eB at *;omega
def vK{n:Int}(h:jO n=true):bT n:=by unfold jO at h;rw[decide_eq_true_eq]at h;unfold bT;omega
def mj(R:Int)(out:List Int):Prop:=(out.length:Int)=R/\∀ x∈out,bT x
def mj.get{R:Int}{out:List Int}(h:mj R out)(i:Nat):bT (out.getD i 0):=by
 rcases dP i out.length with hi|hi
 ·exact h.2 _ (aF hi)
 ·rw[az,dK hi];unfold bT;decide
def mj.add{R:Int}{out:List Int}(h:mj R out){r c:Int}(hc:bT c):mj R (iJ out r c) :=
 ⟨by rw[iJ,bJ];exact h.1,λx hx=>by
  rcases su hx with h'|h'
  ·exact h.2 x h'
  ·rw[h'];exact E1 (h.get _) hc⟩
def mj.rep{R:Int}(hR:0<=R):mj R (aK R.toNat 0):=⟨P2,λx hx=>by
 have:=Cb hx;subst this;unfold bT;decide⟩
structure VM(m:ah):Prop where
 cls:m.cls.length<=24
 opt:∀ l∈m.cls,l.length<=24
 ae:m.ae.length<=4000
 aD:m.aD.length<=800
 vL:0<=m.rules/\m.rules<=56
 sW:∀ l∈m.cls,∀ o∈l,eK m.rules none o.ch=true
 pr:fS m none m.ae=true
 ct:∀ c∈m.aD,jv m c=true
def nu{m:ah}:iR m=0↔VM m:=by
 unfold iR;constructor
 ·intro h;split at h
  ·omega
  split at h
  ·omega
  split at h
  ·omega
  split at h
  ·omega
  rename_i h1 h2 h3 h4;have K':uD m=false:=by simpa using h1
  rw[uD,decide_eq_false_iff_not]at K';have h5:∀ l∈m.cls,l.length<=24:=λl hl=>by
   rcases dP 24 l.length with h|h
   ·exact absurd (.inr (.inl (u6.2 ⟨l,hl,by simpa using h⟩))) K'
   ·exact h
  refine⟨GK,h5,GK,GK,GK,λl hl o ho=>?_,by simpa using h3,λc hc=>?_⟩
  ·cases hh:eK m.rules none o.ch with
   |true=>rfl
   |false=>exact absurd (u6.2 ⟨l,hl,u6.2 ⟨o,ho,by rw[hh];rfl⟩⟩) h2
  ·cases hh:jv m c with
   |true=>rfl
   |false=>exact absurd (u6.2 ⟨c,hc,by rw[hh];rfl⟩) h4
 ·intro h;have h0:uD m=false:=by
   rw[uD,decide_eq_false_iff_not];rintro(h'|h'|h'|h'|h'|h')
   ·have:=h.cls;omega
   ·obtain⟨l,hl,vO⟩:=u6.1 h';have:=h.opt l hl;simp only[decide_eq_true_eq]at vO;omega
   ·have:=h.ae;omega
   ·have:=h.aD;omega
   ·have:=h.vL;omega
   ·have:=h.vL;omega
  rw[if_neg (by rw[h0];simp),if_neg,if_neg (by rw[h.pr];simp),if_neg]
  ·intro hh;obtain⟨c,hc,h'⟩:=u6.1 hh;rw[h.ct c hc]at h';simp at h'
  ·intro hh;obtain⟨l,hl,h'⟩:=u6.1 hh;obtain⟨o,ho,vO⟩:=u6.1 h';rw[h.sW l hl o ho]at vO;simp at vO
def Io{R:Int}:∀ {l:List (Int×Int)} {q:Option (Int×Int)},eK R q l=true->∀ c∈l,j8 R c.1=true/\jO c.2=true
 |[],_,_,c,hc=>by simp at hc
 |x::r,q,h,c,hc=>by
  rw[eK.eq_def]at h;simp only[bb]at h;rcases bw.1 hc with rfl|hc
  ·exact h.1.1
  ·exact Io h.2 c hc
def MR{R:Int}:∀ {l:List (Int×Int)} {q:Int×Int},eK R (some q) l=true->l=[]\/q.1+l.length<R
 |[],_,_=>.inl rfl
 |x::r,q,h=>by
  right;rw[eK]at h;simp only[bb,decide_eq_true_eq,j8]at h;rcases MR h.2 with rfl|h5
  ·simp only[dq,o8];omega
  ·simp only[dq];omega
def UU{R:Int}{l:List (Int×Int)}(hR:0<=R)(h:eK R none l=true):(l.length:Int)<=R:=by
 cases l with
 |nil=>simpa using hR
 |cons x r =>
  rw[eK]at h;simp only[bb,decide_eq_true_eq,j8]at h;rcases MR h.2 with rfl|h5
  ·simp only[dq,o8];omega
  ·simp only[dq];omega
def j6{m:ah}:∀ {l:List Pr} {q:Option Pr},fS m q l=true->∀ p∈l,hJ m p=true
 |[],_,_,c,hc=>by simp at hc
 |x::r,q,h,c,hc=>by
  rw[fS.eq_def]at h;simp only[bb]at h;rcases bw.1 hc with rfl|hc
  ·exact h.1.1
  ·exact j6 h.2 c hc
def jN{m:ah}{c o:Int}:hZ m c o=true↔0<=c/\c<m.cls.length/\0<=o/\o<(m.cls.getD c.toNat default).length:=by rw[hZ,decide_eq_true_eq]
def UW{m:ah}(h:VM m){c o:Int}(hb:hZ m c o=true):0<=c/\c<24/\0<=o/\o<24:=by
 obtain⟨h1,h2,h3,h4⟩:=jN.1 hb;have:=h.cls;have:=h.opt _ (aF (l:=m.cls) (i:=c.toNat) (d:=default) GK);omega
def E7(a b:Int):(a<b/\kQ a b = -1)\/(a=b/\kQ a b=0)\/(b<a/\kQ a b=1):=by
 unfold kQ;rcases Int.lt_trichotomy a b with h|h|h
 ·left;exact⟨h,by rw[if_pos h]⟩
 ·right;left;exact⟨h,by rw[if_neg GK,if_neg GK]⟩
 ·right;right;exact⟨h,by rw[if_neg GK,if_pos h]⟩
def Ix{a b:Ld}:vN a b<0↔a.cls<b.cls\/(a.cls=b.cls/\a.opt<b.opt):=by
 unfold vN;rcases E7 a.cls b.cls with⟨h,e⟩|⟨h,e⟩|⟨h,e⟩<;>rcases E7 a.opt b.opt with⟨h',e'⟩|⟨h',e'⟩|⟨h',e'⟩<;>simp[rN,e,e']<;>omega
def MS{a b:Pr}:oh a b<0↔a.ee<b.ee\/(a.ee=b.ee/\(a.fst<b.fst\/(a.fst=b.fst/\a.snd<b.snd))):=by
 unfold oh;rcases E7 a.ee b.ee with⟨h,e⟩|⟨h,e⟩|⟨h,e⟩<;>rcases E7 a.fst b.fst with⟨h',e'⟩|⟨h',e'⟩|⟨h',e'⟩<;>rcases E7 a.snd b.snd with⟨h2,e2⟩|⟨h2,e2⟩|⟨h2,e2⟩<;>simp[rN,e,e',e2]<;>omega
def UX{m:ah}(hm:VM m):∀ {l:List Ld} {q:Ld},eO m (some q) l=true->0<=q.cls/\0<=q.opt/\q.opt<24->l=[]\/q.cls*24+q.opt+l.length<576
 |[],_,_,_=>.inl rfl
 |x::r,q,h,hq=>by
  right;rw[eO]at h;simp only[bb,decide_eq_true_eq]at h;obtain⟨⟨⟨h1,h2⟩,h3⟩,h4⟩:=h;obtain⟨a,b,c,d⟩:=UW hm h1;have aX:q.cls*24+q.opt<x.cls*24+x.opt:=by
   rcases Ix.1 h3 with h|h<;>omega
  rcases UX hm h4 ⟨a,c,d⟩ with rfl|h5
  ·simp only[dq,o8];omega
  ·simp only[dq];omega
def UY{m:ah}(hm:VM m){l:List Ld}(h:eO m none l=true):l.length<=576:=by
 cases l with
 |nil=>simp
 |cons x r =>
  rw[eO]at h;simp only[bb,decide_eq_true_eq]at h;obtain⟨a,b,c,d⟩:=UW hm h.1.1.1;rcases UX hm h.2 ⟨a,c,d⟩ with rfl|h5
  ·simp
  ·simp only[dq];omega
def w5{m:ah}:∀ {l:List Ld} {q:Option Ld},eO m q l=true->∀ x∈l,hZ m x.cls x.opt=true/\1<=x.wt/\x.wt<=1000
 |[],_,_,c,hc=>by simp at hc
 |x::r,q,h,c,hc=>by
  rw[eO.eq_def]at h;simp only[bb,decide_eq_true_eq]at h;rcases bw.1 hc with rfl|hc
  ·exact⟨h.1.1.1,h.1.1.2⟩
  ·exact w5 h.2 c hc
def My{most cf sum:Int}(h:bT cf):bT (lK most cf sum):=by
 unfold lK bT at *;split
 ·omega
 ·have:0<=(sum-most)*cf:=sw GK h.1;omega
def UZ{R:Int}:∀ {l:List (Int×Int)} {out:List Int},mj R out->(∀ c∈l,jO c.2=true)->mj R (C9 l out)
 |[],_,h,_=>h
 |c::r,out,h,hc=>by rw[C9];exact UZ (h.add (vK (hc c GM))) λx hx=>hc x (by simp[hx])
structure PM(m:ah)(plan:List Int):Prop where
 len:plan.length=m.cls.length
 get:∀ j,j<plan.length->plan.getD j 0 = -1\/hZ m (j:Nat) (plan.getD j 0)=true
def qA{m:ah}{p:Pr}(h:hJ m p=true):(0<=p.ee/\p.ee<m.rules)/\0<=p.fst/\p.fst<p.snd/\p.snd<m.cls.length/\(p.ay.length:Int)=(m.cls.getD p.fst.toNat default).length*(m.cls.getD p.snd.toNat default).length:=by
 unfold hJ j8 at h;simp only[bb,decide_eq_true_eq]at h;exact⟨h.1.1,h.1.2⟩
def zL{x y a b:Int}(hx:0<=x/\x<a)(hy:0<=y/\y<b)(ha:a<=24)(hb:b<=24):0<=x*b/\x*b<=576/\x*b+y<a*b:=by
 have h1:0<=x*b:=sw hx.1 GK;have h2:x*b<=(a-1)*b:=GJ GK GK;have h3:(a-1)*b=a*b-b:=by rw[Int.sub_mul,Int.one_mul]
 have h4:a*b<=24*24:=p8 ha hb GK GK;omega
def ux{m:ah}{c:Ct}(h:jv m c=true):(0<=c.ee/\c.ee<m.rules)/\(0<=c.most/\c.most<=1048576)/\jO c.cf=true/\eO m none c.bh=true:=by
 unfold jv j8 at h;simp only[bb,decide_eq_true_eq]at h;exact⟨h.1.1.1,h.1.1.2,h.1.2,h.2⟩
def Mz{m:ah}{p:Pr}(hp:hJ m p=true)(x y:Int):bT (yq m p x y):=by
 unfold yq;rcases dP (x*(m.cls.getD p.snd.toNat default).length+y).toNat p.ay.length with h|h
 ·unfold hJ at hp;simp only[bb,kz,Az]at hp;have:=hp.2 _ (aF (d:=0) h);unfold pK at this;simp only[bb,decide_eq_true_eq,kz,not_and,Bool.not_eq_false]at this;generalize p.ay.getD (x*(m.cls.getD p.snd.toNat default).length+y).toNat 0=n at *;by_cases h0:n=0
  ·subst h0;unfold bT;decide
  ·exact vK (this h0)
 ·rw[az,dK h];unfold bT;decide
def U0{R:Int}{c:Int×Int}:∀ {l:List (Int×Int)} {q:Option (Int×Int)},eK R q l=true->j8 R c.1=true->jO c.2=true->(∀ x∈l,x.1<c.1)->(∀ y,q=some y->y.1<c.1)->eK R q (l++[c])=true
 |[],q,_,h1,h2,_,h3=>by
  rw[eC,eK.eq_def];cases q with
  |none=>simp[h1,h2,eK]
  |some y=>simp[h1,h2,eK,h3 y rfl]
 |x::r,q,h,h1,h2,h3,h4=>by
  rw[eK.eq_def]at h;simp only[bb]at h;rw[dx,eK.eq_def];simp only[bb];exact⟨h.1,U0 h.2 h1 h2 (λy hy=>h3 y (by simp[hy])) (λy hy=>by simp only[cA.injEq]at hy;subst hy;exact h3 _ GM)⟩
def U1{m:ah}{c:Pr}:∀ {l:List Pr} {q:Option Pr},fS m q l=true->hJ m c=true->(∀ x∈l,oh x c<0)->(∀ y,q=some y->oh y c<0)->fS m q (l++[c])=true
 |[],q,_,h1,_,h3=>by
  rw[eC,fS.eq_def];cases q with
  |none=>simp[h1,fS]
  |some y=>simp[h1,fS,h3 y rfl]
 |x::r,q,h,h1,h3,h4=>by
  rw[fS.eq_def]at h;simp only[bb]at h;rw[dx,fS.eq_def];simp only[bb];exact⟨h.1,U1 h.2 h1 (λy hy=>h3 y (by simp[hy])) (λy hy=>by simp only[cA.injEq]at hy;subst hy;exact h3 _ GM)⟩
def U2{m:ah}{c:Ld}:∀ {l:List Ld} {q:Option Ld},eO m q l=true->hZ m c.cls c.opt=true->(1<=c.wt/\c.wt<=1000)->(∀ x∈l,vN x c<0)->(∀ y,q=some y->vN y c<0)->eO m q (l++[c])=true
 |[],q,_,h1,h2,_,h3=>by
  rw[eC,eO.eq_def];cases q with
  |none=>simp[h1,h2,eO]
  |some y=>simp[h1,h2,eO,h3 y rfl]
 |x::r,q,h,h1,h2,h3,h4=>by
  rw[eO.eq_def]at h;simp only[bb]at h;rw[dx,eO.eq_def];simp only[bb];exact⟨h.1,U2 h.2 h1 h2 (λy hy=>h3 y (by simp[hy])) (λy hy=>by simp only[cA.injEq]at hy;subst hy;exact h3 _ GM)⟩
def U3{cls:List (List cz)}{R:Int}{a b:List Pr}{c d:List Ct}:∀ (l:List Pr) (q:Option Pr),fS ⟨cls,a,c,R⟩ q l=fS ⟨cls,b,d,R⟩ q l
 |[],_=>rfl
 |x::r,q=>by
  have:=U3 (cls:=cls) (R:=R) (a:=a) (b:=b) (c:=c) (d:=d) r (some x);cases q<;>simp only[fS,this]<;>rfl
def U4{cls:List (List cz)}{R:Int}{a b:List Pr}{c d:List Ct}:∀ (l:List Ld) (q:Option Ld),eO ⟨cls,a,c,R⟩ q l=eO ⟨cls,b,d,R⟩ q l
 |[],_=>rfl
 |x::r,q=>by
  have:=U4 (cls:=cls) (R:=R) (a:=a) (b:=b) (c:=c) (d:=d) r (some x);cases q<;>simp only[eO,this]<;>rfl
def ahH{cls:List (List cz)}{R:Int}{a b:List Pr}{c d:List Ct}(x:Ct):jv ⟨cls,a,c,R⟩ x=jv ⟨cls,b,d,R⟩ x:=by
 unfold jv;rw[U4 (a:=a) (b:=b) (c:=c) (d:=d)]
def MT(L:List Int)(k:Nat):0<=qF L k/\qF L k<=1099511627776/\(0<qF L k->jO (qF L k)=true):=by
 have h6:=j4 (L:=L) (k:=k) (n:=6) GK;have h20:=j4 (L:=L) (k:=cK L k) (n:=20) GK;unfold qF;split
 ·exact⟨GK,GK,GK⟩
 ·split
  ·exact⟨GK,GK,λ_=>GS⟩
  ·refine⟨GK,GK,λ_=>?_⟩;rw[jO,decide_eq_true_eq];omega
def MU{L:List Int}{k:Nat}(h:k<=L.length):xh L k<=L.length:=by
 unfold xh;split
 ·exact fH h
 ·exact fH (fH h)
structure MM(m:ah)(qG options:Nat):Prop where
 vm:VM m
 rF:m.cls.length<=qG
 some:∀ l∈m.cls,1<=l.length/\l.length<=options
 vL:1<=m.rules/\m.rules<=4
 aD:m.aD.length<=2
 wk:∀ l∈m.cls,∀ o∈l,o.wk<=3
def VM.mb{m:ah}(h:VM m):MB m:=by
 refine⟨by have:=h.cls;omega,λl hl=>by have:=h.opt l hl;omega,λl hl o ho=>?_,by have:=h.ae;omega,λp hp=>?_,by have:=h.aD;omega,λc hc=>?_⟩
 ·have:=UU h.vL.1 (h.sW l hl o ho);have:=h.vL;omega
 ·obtain⟨_,h1,h2,h3,h4⟩:=qA (j6 h.pr p hp);have a:=h.opt _ (aF (l:=m.cls) (i:=p.fst.toNat) (d:=default) GK);have b:=h.opt _ (aF (l:=m.cls) (i:=p.snd.toNat) (d:=default) GK);have:((m.cls.getD p.fst.toNat default).length:Int)*(m.cls.getD p.snd.toNat default).length<=24*24:=p8 GK GK GK GK;omega
 ·have:=UY h (ux (h.ct c hc)).2.2.2;omega
def cU(L:List Int)(k:Nat)(cls:List (List cz))(ae:List Pr)(aD:List Ct)(R:Int):List Ob :=
 [.var [.tree 1 (ints L),Qf k],.var [.lit (.slice none 0 0),.lit (.slice none 0 0),.lit (.slice none 0 0),Qf 0],
  .var [.ref 3 1 0 cls.length,.ref 4 4 0 ae.length,.ref 5 4 0 aD.length,Qf R],.arr 1 (rowsOf aW cls),.arr 4 (rowsOf aI ae),.arr 4 (rowsOf dv aD)]
def U5(R:Int)(l:List cz):Prop:=∀ o∈l,eK R none o.ch=true/\o.wk<=3
def E8(p:Pr)(u i k:Nat):Prop:=p.ee<u\/(p.ee=u/\(p.fst<i\/(p.fst=i/\p.snd<k)))
structure yx(cls:List (List cz))(R:Int)(ae:List Pr)(u i k:Nat):Prop where
 ok:fS ⟨cls,[],[],R⟩ none ae=true
 lt:∀ p∈ae,E8 p u i k
 len:ae.length<=576*u+24*i+k
def yx.mono{cls:List (List cz)}{R:Int}{ae:List Pr}{u i k u' i' k':Nat}(h:yx cls R ae u i k)(hl:u<u'\/(u=u'/\(i<i'\/(i=i'/\k<=k'))))(hs:576*u+24*i+k<=576*u'+24*i'+k'):yx cls R ae u' i' k' :=
 ⟨h.ok,λp hp=>by have:=h.lt p hp;unfold E8 at *;omega,by have:=h.len;omega⟩
def yx.app{cls:List (List cz)}{R:Int}{ae:List Pr}{u i k:Nat}(h:yx cls R ae u i k){ay:List Int}(hp:hJ ⟨cls,[],[],R⟩ ⟨i,k,u,ay⟩=true):yx cls R (ae++[⟨i,k,u,ay⟩]) u i (k+1):=by
 refine⟨U1 h.ok hp (λx hx=>?_) GM,λp hp=>?_,by have:=h.len;simp;omega⟩
 ·have:=h.lt x hx;rw[MS];unfold E8 at this;dsimp only;omega
 ·rcases cG.1 hp with hp|hp
  ·have:=h.lt p hp;unfold E8 at *;omega
  ·simp only[cV]at hp;subst hp;unfold E8;dsimp only;omega
def ahJ{cls:List (List cz)}{R:Int}{ay:List Int}{i k u:Nat}(hu:(u:Int)<R)(hik:i<k)(hk:k<cls.length)(ht:ay.length=(cls.getD i default).length*(cls.getD k default).length)(hc:∀ x∈ay,0<=x/\(0<x->jO x=true)):
  hJ ⟨cls,[],[],R⟩ ⟨i,k,u,ay⟩=true:=by
 unfold hJ j8;simp only[bb,decide_eq_true_eq,kz,Int.toNat_natCast,Az];refine⟨⟨⟨GK,hu⟩,GK,GK,GK,?_⟩,λx hx=>?_⟩
 ·rw[ht];simp
 ·unfold pK;have:=hc x hx;by_cases h0:x=0
  ·subst h0;decide
  ·rw[this.2 GK];simp
structure zS(cls:List (List cz))(R:Int)(l:List Ld)(i k:Nat):Prop where
 ok:eO ⟨cls,[],[],R⟩ none l=true
 lt:∀ x∈l,x.cls<i\/(x.cls=i/\x.opt<k)
 len:l.length<=24*i+k
def zS.mono{cls:List (List cz)}{R:Int}{l:List Ld}{i k i' k':Nat}(h:zS cls R l i k)(hl:i<i'\/(i=i'/\k<=k'))(hs:24*i+k<=24*i'+k'):zS cls R l i' k' :=
 ⟨h.ok,λp hp=>by have:=h.lt p hp;omega,by have:=h.len;omega⟩
def zS.app{cls:List (List cz)}{R:Int}{l:List Ld}{i k:Nat}(h:zS cls R l i k){w:Int}(hi:i<cls.length)(hk:k<(cls.getD i default).length)(hw:1<=w/\w<=1000):zS cls R (l++[⟨i,k,w⟩]) i (k+1):=by
 refine⟨U2 h.ok (jN.2 ⟨PW,PW,PW,by simp;exact hk⟩) hw (λx hx=>?_) GM,λp hp=>?_,by have:=h.len;simp;omega⟩
 ·have:=h.lt x hx;rw[Ix];dsimp only;omega
 ·rcases cG.1 hp with hp|hp
  ·have:=h.lt p hp;omega
  ·simp only[cV]at hp;subst hp;dsimp only;omega
def U6:(default:cz).ch=[]:=rfl
def U7{m:ah}(hm:VM m):∀ (plan:List Int) (i:Nat) (out:List Int),mj m.rules out->mj m.rules (C' m i plan out)
 |[],_,_,h=>h
 |o::r,i,out,h=>by
  rw[C'];refine U7 hm r (i+1) _ ?_;split
  ·exact h
  ·refine UZ h λc hc=>?_;rcases dP i m.cls.length with hi|hi
   ·have hl:=aF (d:=(default:List cz)) hi;generalize m.cls.getD i default=l at *;rcases dP o.toNat l.length with ho|ho
    ·exact(Io (hm.sW l hl _ (aF ho)) c hc).2
    ·rw[show l.getD o.toNat default=default by rw[az,dK ho];rfl]at hc;exact absurd hc (by rw[U6];simp)
   ·rw[show m.cls.getD i default=[] by rw[az,dK hi];rfl]at hc;exact absurd hc (by rw[List.getD_nil,U6];simp)
def U8{m:ah}{plan:List Int}:∀ (l:List Pr) (out:List Int),(∀ p∈l,hJ m p=true)->mj m.rules out->mj m.rules (Da m plan l out)
 |[],_,_,h=>h
 |p::r,out,hp,h=>by
  rw[Da];refine U8 r _ (λq hq=>hp q (by simp[hq])) ?_;split
  ·exact h.add (Mz (hp p GM) _ _)
  ·exact h
def U9{m:ah}{plan:List Int}:∀ (l:List Ct) (out:List Int),(∀ c∈l,jv m c=true)->mj m.rules out->mj m.rules (Db plan l out)
 |[],_,_,h=>h
 |c::r,out,hp,h=>by
  rw[Db];exact U9 r _ (λq hq=>hp q (by simp[hq])) (h.add (My (vK (ux (hp c GM)).2.2.1)))
def aht{m:ah}(hm:VM m)(plan:List Int):mj m.rules (zF m plan) :=
 U9 _ _ hm.ct (U8 _ _ (j6 hm.pr) (U7 hm _ _ _ (mj.rep hm.vL.1)))
def kM:List Int->Int
 |[]=>0
 |x::r=>x+kM r
def MV:∀ {l:List Int},(∀ x∈l,bT x)->0<=kM l/\kM l<=1099511627776*l.length
 |[],_=>by simp[kM]
 |x::r,h=>by
  have:=MV λy hy=>h y (List.mem_cons_of_mem x hy);have:=h x GM;unfold bT at this;simp only[kM,dq];omega
def Uw:∀ {l:List Int} {n:Int},(∀ x∈l,bT x)->bT n->wW l n=min (n+kM l) 1099511627776
 |[],n,_,hn=>by unfold bT at hn;simp only[wW,kM];omega
 |x::r,n,h,hn=>by
  have hx:=h x GM;have hr:∀ y∈r,bT y:=λy hy=>h y (by simp[hy]);rw[wW,Uw hr (E1 hn hx)];have:=MV hr;unfold bT at hx hn;simp only[eB,kM];omega
def MH:∀ {l:List Int},(∀ x∈l,bT x)->∀ x∈l,x<=kM l
 |[],_,x,hx=>by simp at hx
 |y::r,h,x,hx=>by
  have hr:∀ z∈r,bT z:=λz hz=>h z (by simp[hz]);have:=(MV hr).1;have hy:=h y GM;unfold bT at hy;rcases bw.1 hx with rfl|hx
  ·simp only[kM];omega
  ·have:=MH hr x hx;simp only[kM];omega
def Iy(left:List (List Int))(f:Nat)(xs:List Int)(i:Nat)(seen:List Bool)(owner:List Int):Bool×List Bool×List Int :=
  match xs with
  |[]=>(false,seen,owner)
  |x::r =>
    if seen.getD x.toNat false=true then Iy left f r i seen owner
    else if owner.getD x.toNat 0<0 then(true,seen.set x.toNat true,owner.set x.toNat i)
    else match f with
      |0=>(false,seen.set x.toNat true,owner)
      |f+1 =>
        let q:=Iy left f (left.getD (owner.getD x.toNat 0).toNat []) (owner.getD x.toNat 0).toNat (seen.set x.toNat true) owner
        if q.1=true then(true,q.2.1,q.2.2.set x.toNat i) else Iy left (f+1) r i q.2.1 q.2.2
 termination_by (f,xs.length)
def pN(seen:List Bool):Nat:=seen.count false
def ahK(seen:List Bool)(n:Nat)(h:n<seen.length)(hf:seen.getD n false=false):pN (seen.set n true)+1=pN seen:=by
 unfold pN;rw[List.count_set h];have:seen[n]=false:=by simpa [h] using hf
 have h1:0<seen.count false:=List.count_pos_iff.2 (by rw[<- this];exact tG h);simp[this];omega
def yy(n:Nat)(R:Nat)(owner:List Int):Prop:=owner.length=R/\∀ o∈owner,-1<=o/\o<n
def Bu(R:Nat)(left:List (List Int)):Prop:=left.length<1000000/\∀ l∈left,l.length<1000000/\∀ x∈l,0<=x/\x<R
def yy.set{n R:Nat}{owner:List Int}(h:yy n R owner){x i:Nat}(hi:i<n):yy n R (owner.set x i) :=
 ⟨by simpa using h.1,λo ho=>by
  rcases su ho with h'|h'
  ·exact h.2 o h'
  ·subst h';omega⟩
def yy.get{n R:Nat}{owner:List Int}(h:yy n R owner){x:Nat}(hx:x<R): -1<=owner.getD x 0/\owner.getD x 0<n:=by
 have hl:x<owner.length:=by rw[h.1];exact hx
 rw[az,bF hl];exact h.2 _ (tG hl)
def Bu.get{R:Nat}{left:List (List Int)}(h:Bu R left)(i:Nat):(left.getD i []).length<1000000/\∀ x∈left.getD i [],0<=x/\x<R:=by
 rcases dP i left.length with hi|hi
 ·rw[az,bF hi];exact h.2 _ (tG hi)
 ·rw[az,dK hi];simp
def MW(left:List (List Int))(R:Nat)(Bf:Int):Nat->Nat->Nat->List Int->Nat
 |0,_,n,_=>n
 |c+1,i,n,owner =>
  if(i:Int)=Bf then MW left R Bf c (i+1) n owner
  else
   let q:=Iy left R (left.getD i []) i (aK R false) owner
   MW left R Bf c (i+1) (if q.1=true then n+1 else n) q.2.2
def size(left:List (List Int))(R:Nat)(Bf:Int):Nat:=MW left R Bf left.length 0 0 (aK R (-1))
def ahL(R:Nat):pN (aK R false)=R:=by simp[pN]
def yy.rep(n R:Nat):yy n R (aK R (-1)):=⟨GM,λo ho=>by
 have:=Cb ho;subst this;omega⟩
def ta(left:List (List Int))(f:Nat)(xs:List Int)(i:Nat)(seen:List Bool)(owner number:List Int):Bool×List Bool×List Int×List Int :=
  match xs with
  |[]=>(false,seen,owner,number)
  |x::r =>
    if seen.getD x.toNat false=true then ta left f r i seen owner number
    else if owner.getD x.toNat 0<0 then(true,seen.set x.toNat true,owner.set x.toNat i,number.set i x)
    else match f with
      |0=>(false,seen.set x.toNat true,owner,number)
      |f+1 =>
        let q:=ta left f (left.getD (owner.getD x.toNat 0).toNat []) (owner.getD x.toNat 0).toNat (seen.set x.toNat true) owner number
        if q.1=true then(true,q.2.1,q.2.2.1.set x.toNat i,q.2.2.2.set i x) else ta left (f+1) r i q.2.1 q.2.2.1 q.2.2.2
 termination_by (f,xs.length)
def LE(a b:List Int):Prop:=a.length=b.length/\∀ i,a.getD i 0<=b.getD i 0
def LE.refl(a:List Int):LE a a:=⟨rfl,λ_=>mY _⟩
def zT(l:List Int)(n i:Nat)(x:Int):(l.set n x).getD i 0=if n=i/\i<l.length then x else l.getD i 0:=by
 rw[az,List.getElem?_set,az];by_cases h:n=i
 ·subst h;by_cases h2:n<l.length
  ·rw[if_pos rfl,if_pos h2,if_pos ⟨rfl,h2⟩];rfl
  ·rw[if_pos rfl,if_neg h2,if_neg (λh=>h2 h.2),dK GK]
 ·rw[if_neg h,if_neg (λh'=>h h'.1)]
def LE.add{a b:List Int}(h:LE a b){r c d:Int}(hcd:c<=d):LE (iJ a r c) (iJ b r d):=by
 refine⟨by simp only[iJ,bJ];exact h.1,λi=>?_⟩;rw[iJ,iJ,zT,zT,h.1];have:=h.2 i;have:=h.2 r.toNat;split
 ·unfold eB;omega
 ·exact h.2 i
def LE.up{R:Int}{a b:List Int}(h:LE a b)(hb:mj R b){r c:Int}(hc:0<=c):LE a (iJ b r c):=by
 refine⟨by simp only[iJ,bJ];exact h.1,λi=>?_⟩;rw[iJ,zT];have h1:=h.2 i;have h2:=hb.get i;unfold bT at h2;split
 ·rename_i hh;rw[hh.1];unfold eB;omega
 ·exact h1
def Up(p q:List Int):Prop:=p.length=q.length/\∀ j,p.getD j 0=q.getD j 0\/p.getD j 0<0
def aha{most cf s t:Int}(hp:0<=cf)(h:s<=t):lK most cf s<=lK most cf t:=by
 unfold lK;have h1:(s-most)*cf<=(t-most)*cf:=GJ GK hp;split
 ·split
  ·exact mY _
  ·have:0<=(t-most)*cf:=sw GK hp;omega
 ·rw[if_neg GK];omega
def Up.set{p:List Int}{c:Nat}(o:Int)(h:p.getD c 0 = -1):Up p (p.set c o):=by
 refine⟨GM,λj=>?_⟩;rw[zT];split
 ·rename_i hh;rw[<- hh.1,h];omega
 ·exact .inl rfl
def PM.set{m:ah}{p:List Int}(h:PM m p){c:Nat}{o:Int}(ho:o = -1\/hZ m (c:Nat) o=true):PM m (p.set c o):=by
 refine⟨by rw[bJ];exact h.len,λj hj=>?_⟩;rw[bJ]at hj;rw[zT];split
 ·rename_i hh;rw[<- hh.1];exact ho
 ·exact h.get j hj
end T

