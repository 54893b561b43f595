import Derived.Test.YtodilglobhifaaaGreatDoorX07
set_option linter.all false
set_option maxHeartbeats 0
set_option maxRecDepth 20000
open List renaming getD_eq_getElem?_getD→ax,getElem?_eq_getElem→aT,getElem_mem→mD,replicate→aD,getElem?_eq_none→fO,length_set→bm,mem_or_eq_of_mem_set→ue,eq_of_mem_replicate→y7,any_eq_true→np,mem_cons→cI,length_cons→cf,length_nil→gX,replicate_succ→E1,set_append_right→vq,set_cons_zero→sC,take_add_one→JG
open Nat renaming lt_or_ge→dr,strongRecOn→vl,sub_self→lU
open Bool renaming and_eq_true→bb,not_eq_true'→jd
open Int renaming mul_nonneg→vg
open Option renaming getD_some→dE
open Go Go.Am
namespace T
def Rc:=aaC @cK @eD @vC @OJ @OK @FH @xn
def eN(x:Int):Prop:=-9223372036854775808<=x/\x<=9223372036854775807
def uo(n m:Int):Int:=if m<1 then 0 else n%m
def Y3(n m:Int)(hm:0<m):0<=uo n m/\uo n m<m:=by
 unfold uo;rw[if_neg Bv];exact⟨Int.emod_nonneg _ Bv,Int.emod_lt_of_pos _ Bv⟩
def Fs(n m:Int)(hm:0<m):(n.tmod m<0->n%m=n.tmod m+m)/\(0<=n.tmod m->n%m=n.tmod m)/\-m<n.tmod m/\n.tmod m<m:=by
 have h1:=Int.emod_nonneg n (show m≠0 by omega);have h2:=Int.emod_lt_of_pos n hm;rcases Int.lt_or_le n 0 with hn|hn
 ·have h3:n.tmod m = -((-n)%m):=by
   have:=Int.neg_tmod (a:=-n) (b:=m);rw[Int.neg_neg]at this;rw[this,Int.tmod_eq_emod_of_nonneg Bv]
  have h4:=Int.emod_nonneg (-n) (show m≠0 by omega);have h5:=Int.emod_lt_of_pos (-n) hm;have h6:=Int.mul_ediv_add_emod n m;have h7:=Int.mul_ediv_add_emod (-n) m;have key:(n%m=0/\(-n)%m=0)\/n%m=m-(-n)%m:=by
   by_cases hz:(-n)%m=0
   ·left;have hd:m ∣ -n:=Int.dvd_of_emod_eq_zero hz;have oc:m ∣ n:=(Int.dvd_neg).1 hd;exact⟨Int.emod_eq_zero_of_dvd oc,hz⟩
   ·right;have:n=m*(-((-n)/m)-1)+(m-(-n)%m):=by
     have : -n=m*((-n)/m)+(-n)%m:=h7.symm;rw[Int.mul_sub,Int.mul_neg];omega
    rw[this,Int.mul_add_emod_self_left];rw[<- this];exact Int.emod_eq_of_lt Bv Bv
  rw[h3];refine⟨?_,?_,?_,?_⟩<;>omega
 ·rw[Int.tmod_eq_emod_of_nonneg hn];refine⟨?_,?_,?_,?_⟩<;>omega
def dX(L:List Int)(at':Nat)(n:Int):Int:=if at' >= L.length then 0 else uo (L.getD at' 0) n
def db(L:List Int)(at':Nat):Nat:=if at' >= L.length then at' else at'+1
def fQ{L:List Int}{k:Nat}(h:k<=L.length):db L k<=L.length:=by unfold db;split<;>omega
def ke{L:List Int}{k:Nat}{n:Int}(h:0<n):0<=dX L k n/\dX L k n<n:=by
 unfold dX;split
 ·omega
 ·exact Y3 _ _ h
def uq(L:List Int)(k:Nat)(n:Int):Bool:=decide (dX L k n=n-1)
def aF{α:Type}{l:List α}{i:Nat}{d:α}(h:i<l.length):l.getD i d∈l:=by
 rw[ax,aT h];exact mD h
def eO(a b:Int):Int:=min (a+b) 1099511627776
def fv(n:Int):Bool:=decide ((1<=n/\n<=1048576)\/n=1099511627776)
def g6(R n:Int):Bool:=decide (0<=n/\n<R)
def fH(m:ah)(c o:Int):Bool:=decide (0<=c/\c<m.cls.length/\0<=o/\o<(m.cls.getD c.toNat default).length)
def gJ(a b:Int):Int:=if a<b then -1 else if b<a then 1 else 0
def mM:List Int->Int
 |[]=>0
 |x::r=>if x≠0 then x else mM r
def mN(most bW sum:Int):Int:=if sum<=most then 0 else min ((sum-most)*bW) 1099511627776
def mL(L:List Int)(k:Nat):Int:=if dX L k 6<3 then 0 else if dX L k 6=3 then 1099511627776 else 1+dX L (db L k) 20
def rl(L:List Int)(k:Nat):Nat:=if dX L k 6<=3 then db L k else db L (db L k)
def ny{α:Type}[Inhabited α](l:List α)(k:Nat):Option α:=if k=0 then none else some (l.getD (k-1) default)
def du(R:Int):Option (Int×Int)->List (Int×Int)->Bool
 |_,[]=>true
 |q,c::r=>(g6 R c.1&&fv c.2&&(match q with|none=>true|some q=>decide (q.1<c.1)))&&du R (some c) r
def o8(a b:Pr):Int:=mM [gJ a.dN b.dN,gJ a.fst b.fst,gJ a.snd b.snd]
def mH(n:Int):Bool:=decide (n≠0)&&!fv n
def fG(m:ah)(p:Pr):Bool:=g6 m.rules p.dN&&decide (0<=p.fst/\p.fst<p.snd/\p.snd<m.cls.length/\(p.bj.length:Int)=(m.cls.getD p.fst.toNat default).length*(m.cls.getD p.snd.toNat default).length)&&!p.bj.any mH
def iB(m:ah):Option Pr->List Pr->Bool
 |_,[]=>true
 |q,p::r=>(fG m p&&(match q with|none=>true|some q=>decide (o8 q p<0)))&&iB m (some p) r
def pX(a b:Ld):Int:=mM [gJ a.cls b.cls,gJ a.opt b.opt]
def gK(m:ah):Option Ld->List Ld->Bool
 |_,[]=>true
 |q,x::r=>(fH m x.cls x.opt&&decide (1<=x.wt/\x.wt<=1000)&&(match q with|none=>true|some q=>decide (pX q x<0)))&&gK m (some x) r
def fP(m:ah)(c:Ct):Bool:=g6 m.rules c.dN&&decide (0<=c.most/\c.most<=1048576)&&fv c.bW&&gK m none c.bQ
def o7(m:ah):Bool:=decide (24<m.cls.length\/m.cls.any (λl=>decide (24<l.length))=true\/4000<m.aj.length\/800<m.aI.length\/m.rules<0\/56<m.rules)
def mI(m:ah):Int:=if o7 m=true then 2 else if(m.cls.any λl=>l.any λo=>!du m.rules none o.ch)=true then 1 else if iB m none m.aj=false then 1 else if(m.aI.any λc=>!fP m c)=true then 1 else 0
def sO{α:Type}[Inhabited α](l:List α)(k:Nat):ny l (k+1)=some (l.getD k default):=by simp[ny]
def J4{R:Int}{l r:List (Int×Int)}{k:Nat}{c:Int×Int}:du R (ny l k) (c::r)=((g6 R c.1&&fv c.2&&(decide (k=0)||decide ((l.getD (k-1) default).1<c.1)))&&du R (some c) r):=by
 by_cases h:k=0<;>simp[ny,h,du]
def J6{m:ah}{l r:List Pr}{k:Nat}{p:Pr}:iB m (ny l k) (p::r)=((fG m p&&(decide (k=0)||decide (o8 (l.getD (k-1) default) p<0)))&&iB m (some p) r):=by
 by_cases h:k=0<;>simp[ny,h,iB]
def J5{m:ah}{l r:List Ld}{k:Nat}{x:Ld}:gK m (ny l k) (x::r)=((fH m x.cls x.opt&&decide (1<=x.wt/\x.wt<=1000)&&(decide (k=0)||decide (pX (l.getD (k-1) default) x<0)))&&gK m (some x) r):=by
 by_cases h:k=0<;>simp[ny,h,gK]
structure MB(m:ah):Prop where
 cls:m.cls.length<9223372036854775808
 opt:∀ l∈m.cls,l.length<9223372036854775808
 ch:∀ l∈m.cls,∀ o∈l,o.ch.length<9223372036854775808
 aj:m.aj.length<9223372036854775808
 bj:∀ p∈m.aj,p.bj.length<9223372036854775808
 aI:m.aI.length<9223372036854775808
 e9:∀ c∈m.aI,c.bQ.length<9223372036854775808
def fL(out:List Int)(r c:Int):List Int:=out.set r.toNat (eO (out.getD r.toNat 0) c)
def te:List (Int×Int)->List Int->List Int
 |[],out=>out
 |c::r,out=>te r (fL out c.1 c.2)
def oE(m:ah):Nat->List Int->List Int->List Int
 |_,[],out=>out
 |i,o::r,out=>oE m (i+1) r (if o<0 then out else te ((m.cls.getD i default).getD o.toNat default).ch out)
def pB(m:ah)(p:Pr)(x y:Int):Int:=p.bj.getD (x*(m.cls.getD p.snd.toNat default).length+y).toNat 0
def rN(m:ah)(plan:List Int):List Pr->List Int->List Int
 |[],out=>out
 |p::r,out=>rN m plan r (if 0<=plan.getD p.fst.toNat 0/\0<=plan.getD p.snd.toNat 0 then fL out p.dN (pB m p (plan.getD p.fst.toNat 0) (plan.getD p.snd.toNat 0)) else out)
def uJ(plan:List Int):List Ld->Int->Int
 |[],n=>n
 |x::r,n=>uJ plan r (if plan.getD x.cls.toNat 0=x.opt then n+x.wt else n)
def rO(plan:List Int):List Ct->List Int->List Int
 |[],out=>out
 |c::r,out=>rO plan r (fL out c.dN (mN c.most c.bW (uJ plan c.bQ 0)))
def tg:List Int->Int->Int
 |[],n=>n
 |x::r,n=>tg r (eO n x)
def th(m:ah)(plan:List Int):List Int:=rO plan m.aI (rN m plan m.aj (oE m 0 plan (aD m.rules.toNat 0)))
def bL(x:Int):Prop:=0<=x/\x<=1099511627776
def xQ{a b:Int}(ha:bL a)(hb:bL b):bL (eO a b):=by unfold bL eO at *;omega
def pC{n:Int}(h:fv n=true):bL n:=by unfold fv at h;rw[decide_eq_true_eq]at h;unfold bL;omega
def im(R:Int)(out:List Int):Prop:=(out.length:Int)=R/\∀ x∈out,bL x
def im.get{R:Int}{out:List Int}(h:im R out)(i:Nat):bL (out.getD i 0):=by
 rcases dr i out.length with hi|hi
 ·exact h.2 _ (aF hi)
 ·rw[ax,fO hi];unfold bL;decide
def im.add{R:Int}{out:List Int}(h:im R out){r c:Int}(hc:bL c):im R (fL out r c) :=
 ⟨by rw[fL,bm];exact h.1,λx hx=>by
  rcases ue hx with h'|h'
  ·exact h.2 x h'
  ·rw[h'];exact xQ (h.get _) hc⟩
def im.rep{R:Int}(hR:0<=R):im R (aD R.toNat 0):=⟨aak,λx hx=>by
 have:=y7 hx;subst this;unfold bL;decide⟩
structure VM(m:ah):Prop where
 cls:m.cls.length<=24
 opt:∀ l∈m.cls,l.length<=24
 aj:m.aj.length<=4000
 aI:m.aI.length<=800
 rP:0<=m.rules/\m.rules<=56
 tj:∀ l∈m.cls,∀ o∈l,du m.rules none o.ch=true
 pr:iB m none m.aj=true
 ct:∀ c∈m.aI,fP m c=true
def v5{m:ah}:mI m=0↔VM m:=by
 unfold mI;constructor
 ·intro h;split at h
  ·omega
  split at h
  ·omega
  split at h
  ·omega
  split at h
  ·omega
  rename_i h1 h2 h3 h4;have s0:o7 m=false:=by simpa using h1
  rw[o7,decide_eq_false_iff_not]at s0;have h5:∀ l∈m.cls,l.length<=24:=λl hl=>by
   rcases dr 24 l.length with h|h
   ·exact absurd (.inr (.inl (np.2 ⟨l,hl,by simpa using h⟩))) s0
   ·exact h
  refine⟨Bv,h5,Bv,Bv,Bv,λl hl o ho=>?_,by simpa using h3,λc hc=>?_⟩
  ·cases hh:du m.rules none o.ch with
   |true=>rfl
   |false=>exact absurd (np.2 ⟨l,hl,np.2 ⟨o,ho,by rw[hh];rfl⟩⟩) h2
  ·cases hh:fP m c with
   |true=>rfl
   |false=>exact absurd (np.2 ⟨c,hc,by rw[hh];rfl⟩) h4
 ·intro h;have h0:o7 m=false:=by
   rw[o7,decide_eq_false_iff_not];rintro(h'|h'|h'|h'|h'|h')
   ·have:=h.cls;omega
   ·obtain⟨l,hl,lD⟩:=np.1 h';have:=h.opt l hl;simp only[decide_eq_true_eq]at lD;omega
   ·have:=h.aj;omega
   ·have:=h.aI;omega
   ·have:=h.rP;omega
   ·have:=h.rP;omega
  rw[if_neg (by rw[h0];simp),if_neg,if_neg (by rw[h.pr];simp),if_neg]
  ·intro hh;obtain⟨c,hc,h'⟩:=np.1 hh;rw[h.ct c hc]at h';simp at h'
  ·intro hh;obtain⟨l,hl,h'⟩:=np.1 hh;obtain⟨o,ho,lD⟩:=np.1 h';rw[h.tj l hl o ho]at lD;simp at lD
def z9{R:Int}:∀ {l:List (Int×Int)} {q:Option (Int×Int)},du R q l=true->∀ c∈l,g6 R c.1=true/\fv c.2=true
 |[],_,_,c,hc=>by simp at hc
 |x::r,q,h,c,hc=>by
  rw[du.eq_def]at h;simp only[bb]at h;rcases cI.1 hc with rfl|hc
  ·exact h.1.1
  ·exact z9 h.2 c hc
def G0{R:Int}:∀ {l:List (Int×Int)} {q:Int×Int},du R (some q) l=true->l=[]\/q.1+l.length<R
 |[],_,_=>.inl rfl
 |x::r,q,h=>by
  right;rw[du]at h;simp only[bb,decide_eq_true_eq,g6]at h;rcases G0 h.2 with rfl|h5
  ·simp only[cf,gX];omega
  ·simp only[cf];omega
def Y4{R:Int}{l:List (Int×Int)}(hR:0<=R)(h:du R none l=true):(l.length:Int)<=R:=by
 cases l with
 |nil=>simpa using hR
 |cons x r =>
  rw[du]at h;simp only[bb,decide_eq_true_eq,g6]at h;rcases G0 h.2 with rfl|h5
  ·simp only[cf,gX];omega
  ·simp only[cf];omega
def lE{m:ah}:∀ {l:List Pr} {q:Option Pr},iB m q l=true->∀ p∈l,fG m p=true
 |[],_,_,c,hc=>by simp at hc
 |x::r,q,h,c,hc=>by
  rw[iB.eq_def]at h;simp only[bb]at h;rcases cI.1 hc with rfl|hc
  ·exact h.1.1
  ·exact lE h.2 c hc
def mj{m:ah}{c o:Int}:fH m c o=true↔0<=c/\c<m.cls.length/\0<=o/\o<(m.cls.getD c.toNat default).length:=by rw[fH,decide_eq_true_eq]
def QW{m:ah}(h:VM m){c o:Int}(hb:fH m c o=true):0<=c/\c<24/\0<=o/\o<24:=by
 obtain⟨h1,h2,h3,h4⟩:=mj.1 hb;have:=h.cls;have:=h.opt _ (aF (l:=m.cls) (i:=c.toNat) (d:=default) Bv);omega
def z'(a b:Int):(a<b/\gJ a b = -1)\/(a=b/\gJ a b=0)\/(b<a/\gJ a b=1):=by
 unfold gJ;rcases Int.lt_trichotomy a b with h|h|h
 ·left;exact⟨h,by rw[if_pos h]⟩
 ·right;left;exact⟨h,by rw[if_neg Bv,if_neg Bv]⟩
 ·right;right;exact⟨h,by rw[if_neg Bv,if_pos h]⟩
def Fm{a b:Ld}:pX a b<0↔a.cls<b.cls\/(a.cls=b.cls/\a.opt<b.opt):=by
 unfold pX;rcases z' a.cls b.cls with⟨h,e⟩|⟨h,e⟩|⟨h,e⟩<;>rcases z' a.opt b.opt with⟨h',e'⟩|⟨h',e'⟩|⟨h',e'⟩<;>simp[mM,e,e']<;>omega
def J7{a b:Pr}:o8 a b<0↔a.dN<b.dN\/(a.dN=b.dN/\(a.fst<b.fst\/(a.fst=b.fst/\a.snd<b.snd))):=by
 unfold o8;rcases z' a.dN b.dN with⟨h,e⟩|⟨h,e⟩|⟨h,e⟩<;>rcases z' a.fst b.fst with⟨h',e'⟩|⟨h',e'⟩|⟨h',e'⟩<;>rcases z' a.snd b.snd with⟨h2,e2⟩|⟨h2,e2⟩|⟨h2,e2⟩<;>simp[mM,e,e',e2]<;>omega
def QX{m:ah}(hm:VM m):∀ {l:List Ld} {q:Ld},gK m (some q) l=true->0<=q.cls/\0<=q.opt/\q.opt<24->l=[]\/q.cls*24+q.opt+l.length<576
 |[],_,_,_=>.inl rfl
 |x::r,q,h,hq=>by
  right;rw[gK]at h;simp only[bb,decide_eq_true_eq]at h;obtain⟨⟨⟨h1,h2⟩,h3⟩,h4⟩:=h;obtain⟨a,b,c,d⟩:=QW hm h1;have bq:q.cls*24+q.opt<x.cls*24+x.opt:=by
   rcases Fm.1 h3 with h|h<;>omega
  rcases QX hm h4 ⟨a,c,d⟩ with rfl|h5
  ·simp only[cf,gX];omega
  ·simp only[cf];omega
def QY{m:ah}(hm:VM m){l:List Ld}(h:gK m none l=true):l.length<=576:=by
 cases l with
 |nil=>simp
 |cons x r =>
  rw[gK]at h;simp only[bb,decide_eq_true_eq]at h;obtain⟨a,b,c,d⟩:=QW hm h.1.1.1;rcases QX hm h.2 ⟨a,c,d⟩ with rfl|h5
  ·simp
  ·simp only[cf];omega
def G1{m:ah}:∀ {l:List Ld} {q:Option Ld},gK m q l=true->∀ x∈l,fH m x.cls x.opt=true/\1<=x.wt/\x.wt<=1000
 |[],_,_,c,hc=>by simp at hc
 |x::r,q,h,c,hc=>by
  rw[gK.eq_def]at h;simp only[bb,decide_eq_true_eq]at h;rcases cI.1 hc with rfl|hc
  ·exact⟨h.1.1.1,h.1.1.2⟩
  ·exact G1 h.2 c hc
def G2{most bW sum:Int}(h:bL bW):bL (mN most bW sum):=by
 unfold mN bL at *;split
 ·omega
 ·have:0<=(sum-most)*bW:=vg Bv h.1;omega
def QZ{R:Int}:∀ {l:List (Int×Int)} {out:List Int},im R out->(∀ c∈l,fv c.2=true)->im R (te l out)
 |[],_,h,_=>h
 |c::r,out,h,hc=>by rw[te];exact QZ (h.add (pC (hc c Jy))) λx hx=>hc x (by simp[hx])
structure PM(m:ah)(plan:List Int):Prop where
 len:plan.length=m.cls.length
 get:∀ j,j<plan.length->plan.getD j 0 = -1\/fH m (j:Nat) (plan.getD j 0)=true
def xR{m:ah}{p:Pr}(h:fG m p=true):(0<=p.dN/\p.dN<m.rules)/\0<=p.fst/\p.fst<p.snd/\p.snd<m.cls.length/\(p.bj.length:Int)=(m.cls.getD p.fst.toNat default).length*(m.cls.getD p.snd.toNat default).length:=by
 unfold fG g6 at h;simp only[bb,decide_eq_true_eq]at h;exact⟨h.1.1,h.1.2⟩
def v7{x y a b:Int}(hx:0<=x/\x<a)(hy:0<=y/\y<b)(ha:a<=24)(hb:b<=24):0<=x*b/\x*b<=576/\x*b+y<a*b:=by
 have h1:0<=x*b:=vg hx.1 Bv;have h2:x*b<=(a-1)*b:=Int.mul_le_mul_of_nonneg_right Bv Bv;have h3:(a-1)*b=a*b-b:=by rw[Int.sub_mul,Int.one_mul]
 have h4:a*b<=24*24:=Int.mul_le_mul ha hb Bv Bv;omega
def uK{m:ah}{c:Ct}(h:fP m c=true):(0<=c.dN/\c.dN<m.rules)/\(0<=c.most/\c.most<=1048576)/\fv c.bW=true/\gK m none c.bQ=true:=by
 unfold fP g6 at h;simp only[bb,decide_eq_true_eq]at h;exact⟨h.1.1.1,h.1.1.2,h.1.2,h.2⟩
def C9{m:ah}{p:Pr}(hp:fG m p=true)(x y:Int):bL (pB m p x y):=by
 unfold pB;rcases dr (x*(m.cls.getD p.snd.toNat default).length+y).toNat p.bj.length with h|h
 ·unfold fG at hp;simp only[bb,jd,List.any_eq_false]at hp;have:=hp.2 _ (aF (d:=0) h);unfold mH at this;simp only[bb,decide_eq_true_eq,jd,not_and,Bool.not_eq_false]at this;generalize p.bj.getD (x*(m.cls.getD p.snd.toNat default).length+y).toNat 0=n at *;by_cases h0:n=0
  ·subst h0;unfold bL;decide
  ·exact pC (this h0)
 ·rw[ax,fO h];unfold bL;decide
def ml(left:List (List Int))(f:Nat)(xs:List Int)(i:Nat)(seen:List Bool)(owner:List Int):Bool×List Bool×List Int :=
 match xs with
 |[]=>(false,seen,owner)
 |x::r =>
  if seen.getD x.toNat false=true then ml left f r i seen owner
  else if owner.getD x.toNat 0<0 then(true,seen.set x.toNat true,owner.set x.toNat i)
  else match f with
   |0=>(false,seen.set x.toNat true,owner)
   |f+1 =>
    let q:=ml left f (left.getD (owner.getD x.toNat 0).toNat []) (owner.getD x.toNat 0).toNat (seen.set x.toNat true) owner
    if q.1=true then(true,q.2.1,q.2.2.set x.toNat i) else ml left (f+1) r i q.2.1 q.2.2
termination_by (f,xs.length)
def ju(seen:List Bool):Nat:=seen.count false
def Aa(seen:List Bool)(n:Nat)(h:n<seen.length)(hf:seen.getD n false=false):ju (seen.set n true)+1=ju seen:=by
 unfold ju;rw[List.count_set h];have:seen[n]=false:=by simpa [h] using hf
 have h1:0<seen.count false:=List.count_pos_iff.2 (by rw[<- this];exact mD h);simp[this];omega
def ja(n:Nat)(R:Nat)(owner:List Int):Prop:=owner.length=R/\∀ o∈owner,-1<=o/\o<n
def gQ(R:Nat)(left:List (List Int)):Prop:=left.length<1000000/\∀ l∈left,l.length<1000000/\∀ x∈l,0<=x/\x<R
def ja.set{n R:Nat}{owner:List Int}(h:ja n R owner){x i:Nat}(hi:i<n):ja n R (owner.set x i) :=
 ⟨by simpa using h.1,λo ho=>by
  rcases ue ho with h'|h'
  ·exact h.2 o h'
  ·subst h';omega⟩
def ja.get{n R:Nat}{owner:List Int}(h:ja n R owner){x:Nat}(hx:x<R): -1<=owner.getD x 0/\owner.getD x 0<n:=by
 have hl:x<owner.length:=by rw[h.1];exact hx
 rw[ax,aT hl];exact h.2 _ (mD hl)
def gQ.get{R:Nat}{left:List (List Int)}(h:gQ R left)(i:Nat):(left.getD i []).length<1000000/\∀ x∈left.getD i [],0<=x/\x<R:=by
 rcases dr i left.length with hi|hi
 ·rw[ax,aT hi];exact h.2 _ (mD hi)
 ·rw[ax,fO hi];simp
def G3{left:List (List Int)}{R:Nat}(hL:gQ R left):∀ (f:Nat) (xs:List Int) (i:Nat) (seen:List Bool) (owner:List Int),(∀ x∈xs,0<=x/\x<R)->i<left.length->ja left.length R owner->seen.length=R ->
  ja left.length R (ml left f xs i seen owner).2.2/\(ml left f xs i seen owner).2.1.length=R/\ju (ml left f xs i seen owner).2.1<=ju seen:=by
 intro f
 induction f using vl with
 |_ f tn =>
  intro xs
  induction xs with
  |nil=>intro i seen owner _ _ ho hs;rw[ml];exact⟨ho,hs,Nat.le_refl _⟩
  |cons x r ih =>
   intro i seen owner hx hi ho hs;have hx0:=hx x Jy;have Q2:∀ y∈r,0<=y/\y<R:=λy hy=>hx y (by simp[hy]);have bq:x.toNat<seen.length:=Bv;rw[ml.eq_def];simp only;split
   ·exact ih i seen owner Q2 hi ho hs
   ·rename_i Q3;have hc:=Aa seen x.toNat bq (by simpa using Q3);split
    ·exact⟨ho.set hi,by simpa using hs,by simp only;omega⟩
    ·rename_i how;have hg:=ho.get (x:=x.toNat) Bv;cases f with
     |zero=>exact⟨ho,by simpa using hs,by simp only;omega⟩
     |succ f' =>
      have h1:=tn f' Bv (left.getD (owner.getD x.toNat 0).toNat []) (owner.getD x.toNat 0).toNat (seen.set x.toNat true) owner (hL.get _).2 Bv ho (by simpa using hs);obtain⟨a1,a2,a3⟩:=h1;simp only;split
      ·exact⟨a1.set hi,a2,by simp only;omega⟩
      ·have h2:=ih i _ _ Q2 hi a1 a2;exact⟨h2.1,h2.2.1,Bv⟩
def m9(right:Int):List Int->Int
 |[]=>0
 |n::r=>if n<0\/n >= right then 3 else m9 right r
def nc(right:Int):List (List Int)->Int
 |[]=>0
 |l::r=>if l.length > 4096 then 2 else if m9 right l≠0 then 3 else nc right r
def check(left:List (List Int))(right:Int):Int:=if left.length > 256 then 2 else if right<0\/right > 4096 then 3 else nc right left
def xS(left:List (List Int))(R:Nat)(Ab:Int):Nat->Nat->Nat->List Int->Nat
 |0,_,n,_=>n
 |c+1,i,n,owner =>
  if(i:Int)=Ab then xS left R Ab c (i+1) n owner
  else
   let q:=ml left R (left.getD i []) i (aD R false) owner
   xS left R Ab c (i+1) (if q.1=true then n+1 else n) q.2.2
def size(left:List (List Int))(R:Nat)(Ab:Int):Nat:=xS left R Ab left.length 0 0 (aD R (-1))
def Q5(R:Nat):ju (aD R false)=R:=by simp[ju]
def ja.rep(n R:Nat):ja n R (aD R (-1)):=⟨Jy,λo ho=>by
 have:=y7 ho;subst this;omega⟩
def ee(left:List (List Int))(f:Nat)(xs:List Int)(i:Nat)(seen:List Bool)(owner number:List Int):Bool×List Bool×List Int×List Int :=
 match xs with
 |[]=>(false,seen,owner,number)
 |x::r =>
  if seen.getD x.toNat false=true then ee left f r i seen owner number
  else if owner.getD x.toNat 0<0 then(true,seen.set x.toNat true,owner.set x.toNat i,number.set i x)
  else match f with
   |0=>(false,seen.set x.toNat true,owner,number)
   |f+1 =>
    let q:=ee left f (left.getD (owner.getD x.toNat 0).toNat []) (owner.getD x.toNat 0).toNat (seen.set x.toNat true) owner number
    if q.1=true then(true,q.2.1,q.2.2.1.set x.toNat i,q.2.2.2.set i x) else ee left (f+1) r i q.2.1 q.2.2.1 q.2.2.2
termination_by (f,xs.length)
def Da(left:List (List Int)):∀ (f:Nat) (xs:List Int) (i:Nat) (seen:List Bool) (owner number:List Int),
  (ee left f xs i seen owner number).1=(ml left f xs i seen owner).1/\(ee left f xs i seen owner number).2.1=(ml left f xs i seen owner).2.1/\(ee left f xs i seen owner number).2.2.1=(ml left f xs i seen owner).2.2 /\
  (ee left f xs i seen owner number).2.2.2.length=number.length:=by
 intro f
 induction f using vl with
 |_ f tn =>
  intro xs
  induction xs with
  |nil=>intro i seen owner number;rw[ee.eq_def,ml.eq_def];exact⟨rfl,rfl,rfl,rfl⟩
  |cons x r ih =>
   intro i seen owner number;rw[ee.eq_def,ml.eq_def];simp only;split
   ·exact ih i seen owner number
   ·split
    ·exact⟨rfl,rfl,rfl,Jy⟩
    ·cases f with
     |zero=>exact⟨rfl,rfl,rfl,rfl⟩
     |succ f' =>
      obtain⟨h1,h2,h3,h4⟩:=tn f' Bv (left.getD (owner.getD x.toNat 0).toNat []) (owner.getD x.toNat 0).toNat (seen.set x.toNat true) owner number;simp only;rw[h1,h2,h3];split
      ·exact⟨rfl,rfl,rfl,by rw[bm];exact h4⟩
      ·have:=ih i (ml left f' (left.getD (owner.getD x.toNat 0).toNat []) (owner.getD x.toNat 0).toNat (seen.set x.toNat true) owner).2.1 (ml left f' (left.getD (owner.getD x.toNat 0).toNat []) (owner.getD x.toNat 0).toNat (seen.set x.toNat true) owner).2.2
        (ee left f' (left.getD (owner.getD x.toNat 0).toNat []) (owner.getD x.toNat 0).toNat (seen.set x.toNat true) owner number).2.2.2
       rw[h4]at this;exact this
def Q6{n k:Nat}(h:k<=n)(a b:Int):(aD k a++aD (n-k) b).length=n:=aak
def Q7{n k:Nat}(h:k<n)(a b:Int):(aD k a++aD (n-k) b).set k a=aD (k+1) a++aD (n-(k+1)) b:=by
 have:n-k=(n-(k+1))+1:=Bv;rw[this,E1 (n:=n-(k+1)),vq _ _ Jy,List.length_replicate,lU,sC,List.replicate_succ'];simp
def pD(left:List (List Int))(R:Nat):Nat->Nat->List Int->List Int->List Int×List Int
 |0,_,owner,number=>(owner,number)
 |c+1,i,owner,number =>
  let q:=ee left R (left.getD i []) i (aD R false) owner number
  pD left R c (i+1) q.2.2.1 q.2.2.2
def gB(left:List (List Int))(R:Nat):List Int×List Int:=pD left R left.length 0 (aD R (-1)) (aD left.length (-1))
def xT(left:List (List Int))(right:Int):List Int×Int:=if check left right≠0 then([],check left right) else((gB left right.toNat).2,0)
def Y5{right:Int}{l:List Int}(h:m9 right l=0):∀ x∈l,0<=x/\x<right:=by
 induction l with
 |nil=>simp
 |cons n r ih =>
  rw[m9]at h;split at h
  ·omega
  ·intro x hx;rcases cI.1 hx with rfl|hx
   ·omega
   ·exact ih h x hx
def Y6{right:Int}{left:List (List Int)}(h:nc right left=0):∀ l∈left,l.length<=4096/\∀ x∈l,0<=x/\x<right:=by
 induction left with
 |nil=>simp
 |cons l r ih =>
  rw[nc]at h;split at h
  ·omega
  ·split at h
   ·omega
   ·intro y hy;rename_i h1 h2;rcases cI.1 hy with rfl|hy
    ·exact⟨Bv,Y5 Bv⟩
    ·exact ih h y hy
def G4{left:List (List Int)}{right:Int}(h:check left right=0):gQ right.toNat left/\0<=right/\right<=4096:=by
 unfold check at h;split at h
 ·omega
 ·split at h
  ·omega
  ·rename_i h1 h2;refine⟨⟨Bv,λl hl=>?_⟩,Bv,Bv⟩;obtain⟨a,b⟩:=Y6 h l hl;exact⟨Bv,λx hx=>by have:=b x hx;omega⟩
def cY:List Bool->Nat->List Int
 |[],_=>[]
 |b::r,k=>if b=true then(k:Int)::cY r (k+1) else cY r (k+1)
def gd(list:List Int):List Int->List Int->List Bool->List Bool->List Int×List Bool×List Bool
 |[],q,used,aE=>(q,used,aE)
 |n::r,q,used,aE =>
  if 0<=list.getD n.toNat 0/\aE.getD (list.getD n.toNat 0).toNat false=false then gd list r (q++[list.getD n.toNat 0]) (used.set n.toNat true) (aE.set (list.getD n.toNat 0).toNat true)
  else gd list r q (used.set n.toNat true) aE
def oF(left:List (List Int))(list:List Int):Nat->List Int->List Bool->List Bool->List Bool×List Bool
 |0,_,used,aE=>(used,aE)
 |_+1,[],used,aE=>(used,aE)
 |f+1,i::q,used,aE=>let z:=gd list (left.getD i.toNat []) q used aE;oF left list f z.1 z.2.1 z.2.2
def iO(m:List Int):List Bool:=m.map λn=>decide (n<0)
def da(left:List (List Int))(R:Nat):List Int×List Int :=
 let z:=oF left (gB left R).1 left.length (cY (iO (gB left R).2) 0) (aD R false) (iO (gB left R).2)
 (cY z.2 0,cY z.1 0)
def mn(left:List (List Int))(right:Int):List Int×List Int×Int:=if check left right≠0 then([],[],check left right) else((da left right.toNat).1,(da left right.toNat).2,0)
def Q8{left:List (List Int)}{R:Nat}(hL:gQ R left):∀ (c i:Nat) (owner number:List Int),i+c<=left.length->ja left.length R owner->ja left.length R (pD left R c i owner number).1/\(pD left R c i owner number).2.length=number.length
 |0,i,owner,number,_,ho=>⟨ho,rfl⟩
 |c+1,i,owner,number,hi,ho=>by
  have bd:=G3 hL R (left.getD i []) i (aD R false) owner (hL.get _).2 Bv ho Jy;obtain⟨e1,e2,e3,e4⟩:=Da left R (left.getD i []) i (aD R false) owner number;rw[<- e3]at bd;rw[pD];obtain⟨a,b⟩:=Q8 hL c (i+1) _ (ee left R (left.getD i []) i (aD R false) owner number).2.2.2 Bv bd.1;exact⟨a,b.trans e4⟩
def Y7{left:List (List Int)}{R:Nat}(hL:gQ R left):ja left.length R (gB left R).1/\(gB left R).2.length=left.length:=by
 obtain⟨a,b⟩:=Q8 hL left.length 0 (aD R (-1)) (aD left.length (-1)) Bv (ja.rep _ _);exact⟨a,by rw[gB,b];simp⟩
def Y8{l:List Bool}{k n:Nat}(hl:l.length=n)(hk:k<n)(h:l.getD k false=true):(l.take k++aD (n-k) false).set k true=l.take (k+1)++aD (n-(k+1)) false:=by
 have e:n-k=(n-(k+1))+1:=Bv;rw[e,E1,vq _ _ aak,List.length_take,Nat.min_eq_left Bv,lU,sC,JG];have:l[k]?=some true:=by
  have aY:k<l.length:=Bv;rw[ax,aT aY,dE]at h;rw[aT aY,h]
 simp[this]
def Y9{l:List Bool}{k n:Nat}(hl:l.length=n)(hk:k<n)(h:l.getD k false=false):l.take k++aD (n-k) false=l.take (k+1)++aD (n-(k+1)) false:=by
 have e:n-k=(n-(k+1))+1:=Bv;rw[e,E1,JG];have:l[k]?=some false:=by
  have aY:k<l.length:=Bv;rw[ax,aT aY,dE]at h;rw[aT aY,h]
 simp[this]
def tp(l:List Bool):∀ (k:Nat),∀ x∈cY l k,(k:Int)<=x/\x<(k+l.length:Nat):=by
 induction l with
 |nil=>intro k x hx;simp[cY]at hx
 |cons b r ih =>
  intro k x hx;rw[cY]at hx;have:=ih (k+1) x;simp only[cf];split at hx
  ·rcases cI.1 hx with rfl|hx
   ·omega
   ·have:=this hx;omega
  ·have:=this hx;omega
def Ad(l:List Bool):∀ (k:Nat),(cY l k).length+ju l=l.length:=by
 induction l with
 |nil=>intro k;rfl
 |cons b r ih =>
  intro k;have:=ih (k+1);rw[cY];unfold ju at *;cases b<;>simp<;>omega
def Db{list:List Int}{n R:Nat}(ho:ja n R list):∀ (l:List Int) (q:List Int) (used aE:List Bool),(∀ x∈l,0<=x/\x<R)->(∀ x∈q,0<=x/\x<n)->used.length=R->aE.length=n ->
  (∀ x∈(gd list l q used aE).1,0<=x/\x<n)/\(gd list l q used aE).2.1.length=R/\(gd list l q used aE).2.2.length=n/\(gd list l q used aE).1.length+ju (gd list l q used aE).2.2=q.length+ju aE
 |[],q,used,aE,_,hq,hu,hi=>⟨hq,hu,hi,rfl⟩
 |x::r,q,used,aE,hl,hq,hu,hi=>by
  have hx:=hl x Jy;have hr:∀ x∈r,0<=x/\x<R:=λy hy=>hl y (by simp[hy]);have Dc:=ho.get (x:=x.toNat) Bv;rw[gd];split
  ·rename_i hc;have pz:=Aa aE (list.getD x.toNat 0).toNat Bv hc.2;obtain⟨a,b,c,d⟩:=Db ho r (q++[list.getD x.toNat 0]) (used.set x.toNat true) (aE.set (list.getD x.toNat 0).toNat true) hr (by
    intro y hy;rcases List.mem_append.1 hy with hy|hy
    ·exact hq y hy
    ·simp only[List.mem_singleton]at hy;subst hy;omega) (by simpa using hu) (by simpa using hi)
   refine⟨a,b,c,?_⟩;rw[d,List.length_append,List.length_singleton];omega
  ·exact Db ho r q _ aE hr hq (by simpa using hu) hi
def G5(n:Nat)(q:List Int):Prop:=∀ x∈q,0<=x/\x<n
def uL:List Int->List Bool->List Bool
 |[],aE=>aE
 |x::r,aE=>uL r (aE.set x.toNat true)
def Q9:∀ (l:List Int) (aE:List Bool),(uL l aE).length=aE.length
 |[],aE=>rfl
 |x::r,aE=>by rw[uL,Q9 r];simp
def rQ(left:List (List Int))(R n:Nat):Nat->Nat->List Int->List Bool->List Int×List Bool
 |0,_,g,aE=>(g,aE)
 |c+1,i,g,aE=>if size left R i=n then rQ left R n c (i+1) (g++[(i:Int)]) (uL (left.getD i []) aE) else rQ left R n c (i+1) g aE
def G6(left:List (List Int))(R:Nat):List Int×List Int :=
 ((rQ left R (size left R (-1)) left.length 0 [] (aD R false)).1,cY (rQ left R (size left R (-1)) left.length 0 [] (aD R false)).2 0)
end T

