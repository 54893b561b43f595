import Derived.Test.YtfoopmojjjpapaaGreatX07
set_option linter.all false
set_option maxHeartbeats 0
set_option maxRecDepth 20000
open Int renaming tmod_eq_emod_of_nonneg→IQ,mul_nonneg→re,mul_le_mul_of_nonneg_right→CF,mul_le_mul→su,le_refl→kB
open List renaming getD_eq_getElem?_getD→ax,getElem?_eq_getElem→bq,getElem_mem→oV,replicate→aO,getElem?_eq_none→fl,length_set→bw,mem_or_eq_of_mem_set→tP,eq_of_mem_replicate→E2,any_eq_true→nA,mem_cons→bm,length_cons→cX,length_nil→kx,any_eq_false→Om,nil_append→gv,cons_append→ek,mem_append→cT,mem_singleton→c8
open Nat renaming lt_or_ge→du
open Bool renaming and_eq_true→bg,not_eq_true'→kz
open Option renaming some→cy
open Go Go.Am
namespace T
def Rc:=aag @cr @fK @J8 @QT @J9 @J' @mW
def fM(x:Int):Prop:=-9223372036854775808<=x/\x<=9223372036854775807
def yB(n m:Int):Int:=if m<1 then 0 else n%m
def afE(n m:Int)(hm:0<m):0<=yB n m/\yB n m<m:=by
 unfold yB;rw[if_neg AT];exact⟨Int.emod_nonneg _ AT,Int.emod_lt_of_pos _ AT⟩
def K7(n m:Int)(hm:0<m):(n.tmod m<0->n%m=n.tmod m+m)/\(0<=n.tmod m->n%m=n.tmod m)/\-m<n.tmod m/\n.tmod m<m:=by
 have h1:=Int.emod_nonneg n (show m≠0 by omega);have h2:=Int.emod_lt_of_pos n hm;rcases Int.lt_or_le n 0 with hn|hn
 ·have h3:n.tmod m = -((-n)%m):=by
   have:=Int.neg_tmod (a:=-n) (b:=m);rw[Int.neg_neg]at this;rw[this,IQ AT]
  have h4:=Int.emod_nonneg (-n) (show m≠0 by omega);have h5:=Int.emod_lt_of_pos (-n) hm;have h6:=Int.mul_ediv_add_emod n m;have h7:=Int.mul_ediv_add_emod (-n) m;have key:(n%m=0/\(-n)%m=0)\/n%m=m-(-n)%m:=by
   by_cases hz:(-n)%m=0
   ·left;have hd:m ∣ -n:=Int.dvd_of_emod_eq_zero hz;have wE:m ∣ n:=(Int.dvd_neg).1 hd;exact⟨Int.emod_eq_zero_of_dvd wE,hz⟩
   ·right;have:n=m*(-((-n)/m)-1)+(m-(-n)%m):=by
     have : -n=m*((-n)/m)+(-n)%m:=h7.symm;rw[Int.mul_sub,Int.mul_neg];omega
    rw[this,Int.mul_add_emod_self_left];rw[<- this];exact Int.emod_eq_of_lt AT AT
  rw[h3];refine⟨?_,?_,?_,?_⟩<;>omega
 ·rw[IQ hn];refine⟨?_,?_,?_,?_⟩<;>omega
def iD(L:List Int)(B4:Nat)(n:Int):Int:=if B4 >= L.length then 0 else yB (L.getD B4 0) n
def eZ(L:List Int)(B4:Nat):Nat:=if B4 >= L.length then B4 else B4+1
def lP{L:List Int}{k:Nat}(h:k<=L.length):eZ L k<=L.length:=by unfold eZ;split<;>omega
def qG{L:List Int}{k:Nat}{n:Int}(h:0<n):0<=iD L k n/\iD L k n<n:=by
 unfold iD;split
 ·omega
 ·exact afE _ _ h
def Dz(L:List Int)(k:Nat)(n:Int):Bool:=decide (iD L k n=n-1)
def aE{α:Type}{l:List α}{i:Nat}{d:α}(h:i<l.length):l.getD i d∈l:=by
 rw[ax,bq h];exact oV h
def dW(a b:Int):Int:=min (a+b) 1099511627776
def jo(n:Int):Bool:=decide ((1<=n/\n<=1048576)\/n=1099511627776)
def jJ(R n:Int):Bool:=decide (0<=n/\n<R)
def jq(m:ah)(c o:Int):Bool:=decide (0<=c/\c<m.cls.length/\0<=o/\o<(m.cls.getD c.toNat default).length)
def kd(a b:Int):Int:=if a<b then -1 else if b<a then 1 else 0
def qQ:List Int->Int
 |[]=>0
 |x::r=>if x≠0 then x else qQ r
def kL(most cf sum:Int):Int:=if sum<=most then 0 else min ((sum-most)*cf) 1099511627776
def B5(n c:Int):Int:=if n<=0 then 0 else if 1099511627776<=c then 1099511627776 else min (n*c) 1099511627776
def pJ(L:List Int)(k:Nat):Int:=if iD L k 6<3 then 0 else if iD L k 6=3 then 1099511627776 else 1+iD L (eZ L k) 20
def vD(L:List Int)(k:Nat):Nat:=if iD L k 6<=3 then eZ L k else eZ L (eZ L k)
def qR{α:Type}[Inhabited α](l:List α)(k:Nat):Option α:=if k=0 then none else some (l.getD (k-1) default)
def ej(R:Int):Option (Int×Int)->List (Int×Int)->Bool
 |_,[]=>true
 |q,c::r=>(jJ R c.1&&jo c.2&&(match q with|none=>true|some q=>decide (q.1<c.1)))&&ej R (some c) r
def ni(a b:Pr):Int:=qQ [kd a.dZ b.dZ,kd a.fst b.fst,kd a.snd b.snd]
def oG(n:Int):Bool:=decide (n≠0)&&!jo n
def gA(m:ah)(p:Pr):Bool:=jJ m.rules p.dZ&&decide (0<=p.fst/\p.fst<p.snd/\p.snd<m.cls.length/\(p.aB.length:Int)=(m.cls.getD p.fst.toNat default).length*(m.cls.getD p.snd.toNat default).length)&&!p.aB.any oG
def e7(m:ah):Option Pr->List Pr->Bool
 |_,[]=>true
 |q,p::r=>(gA m p&&(match q with|none=>true|some q=>decide (ni q p<0)))&&e7 m (some p) r
def uE(a b:Ld):Int:=qQ [kd a.cls b.cls,kd a.opt b.opt]
def eu(m:ah):Option Ld->List Ld->Bool
 |_,[]=>true
 |q,x::r=>(jq m x.cls x.opt&&decide (1<=x.wt/\x.wt<=1000)&&(match q with|none=>true|some q=>decide (uE q x<0)))&&eu m (some x) r
def iW(m:ah)(c:Ct):Bool:=jJ m.rules c.dZ&&decide (0<=c.most/\c.most<=1048576)&&jo c.cf&&eu m none c.aZ
def th(m:ah):Bool:=decide (24<m.cls.length\/m.cls.any (λl=>decide (24<l.length))=true\/4000<m.ae.length\/800<m.aC.length\/m.rules<0\/56<m.rules)
def iB(m:ah):Int:=if th m=true then 2 else if(m.cls.any λl=>l.any λo=>!ej m.rules none o.ch)=true then 1 else if e7 m none m.ae=false then 1 else if(m.aC.any λc=>!iW m c)=true then 1 else 0
def w9{α:Type}[Inhabited α](l:List α)(k:Nat):qR l (k+1)=some (l.getD k default):=by simp[qR]
def Tt{R:Int}{l r:List (Int×Int)}{k:Nat}{c:Int×Int}:ej R (qR l k) (c::r)=((jJ R c.1&&jo c.2&&(decide (k=0)||decide ((l.getD (k-1) default).1<c.1)))&&ej R (some c) r):=by
 by_cases h:k=0<;>simp[qR,h,ej]
def Tu{m:ah}{l r:List Pr}{k:Nat}{p:Pr}:e7 m (qR l k) (p::r)=((gA m p&&(decide (k=0)||decide (ni (l.getD (k-1) default) p<0)))&&e7 m (some p) r):=by
 by_cases h:k=0<;>simp[qR,h,e7]
def Tv{m:ah}{l r:List Ld}{k:Nat}{x:Ld}:eu m (qR l k) (x::r)=((jq m x.cls x.opt&&decide (1<=x.wt/\x.wt<=1000)&&(decide (k=0)||decide (uE (l.getD (k-1) default) x<0)))&&eu m (some x) r):=by
 by_cases h:k=0<;>simp[qR,h,eu]
structure MB(m:ah):Prop where
 cls:m.cls.length<9223372036854775808
 opt:∀ l∈m.cls,l.length<9223372036854775808
 ch:∀ l∈m.cls,∀ o∈l,o.ch.length<9223372036854775808
 ae:m.ae.length<9223372036854775808
 aB:∀ p∈m.ae,p.aB.length<9223372036854775808
 aC:m.aC.length<9223372036854775808
 mz:∀ c∈m.aC,c.aZ.length<9223372036854775808
def iq(out:List Int)(r c:Int):List Int:=out.set r.toNat (dW (out.getD r.toNat 0) c)
def BS:List (Int×Int)->List Int->List Int
 |[],out=>out
 |c::r,out=>BS r (iq out c.1 c.2)
def BT(m:ah):Nat->List Int->List Int->List Int
 |_,[],out=>out
 |i,o::r,out=>BT m (i+1) r (if o<0 then out else BS ((m.cls.getD i default).getD o.toNat default).ch out)
def zX(m:ah)(p:Pr)(x y:Int):Int:=p.aB.getD (x*(m.cls.getD p.snd.toNat default).length+y).toNat 0
def BU(m:ah)(plan:List Int):List Pr->List Int->List Int
 |[],out=>out
 |p::r,out=>BU m plan r (if 0<=plan.getD p.fst.toNat 0/\0<=plan.getD p.snd.toNat 0 then iq out p.dZ (zX m p (plan.getD p.fst.toNat 0) (plan.getD p.snd.toNat 0)) else out)
def wZ(plan:List Int):List Ld->Int->Int
 |[],n=>n
 |x::r,n=>wZ plan r (if plan.getD x.cls.toNat 0=x.opt then n+x.wt else n)
def BV(plan:List Int):List Ct->List Int->List Int
 |[],out=>out
 |c::r,out=>BV plan r (iq out c.dZ (kL c.most c.cf (wZ plan c.aZ 0)))
def pz:List Int->Int->Int
 |[],n=>n
 |x::r,n=>pz r (dW n x)
def rK(m:ah)(plan:List Int):List Int:=BV plan m.aC (BU m plan m.ae (BT m 0 plan (aO m.rules.toNat 0)))
def bJ(x:Int):Prop:=0<=x/\x<=1099511627776
def DP{a b:Int}(ha:bJ a)(hb:bJ b):bJ (dW a b):=by unfold bJ dW at *;omega
def rL{n:Int}(h:jo n=true):bJ n:=by unfold jo at h;rw[decide_eq_true_eq]at h;unfold bJ;omega
def lq(R:Int)(out:List Int):Prop:=(out.length:Int)=R/\∀ x∈out,bJ x
def lq.get{R:Int}{out:List Int}(h:lq R out)(i:Nat):bJ (out.getD i 0):=by
 rcases du i out.length with hi|hi
 ·exact h.2 _ (aE hi)
 ·rw[ax,fl hi];unfold bJ;decide
def lq.add{R:Int}{out:List Int}(h:lq R out){r c:Int}(hc:bJ c):lq R (iq out r c) :=
 ⟨by rw[iq,bw];exact h.1,λx hx=>by
  rcases tP hx with h'|h'
  ·exact h.2 x h'
  ·rw[h'];exact DP (h.get _) hc⟩
def lq.rep{R:Int}(hR:0<=R):lq R (aO R.toNat 0):=⟨N0,λx hx=>by
 have:=E2 hx;subst this;unfold bJ;decide⟩
structure VM(m:ah):Prop where
 cls:m.cls.length<=24
 opt:∀ l∈m.cls,l.length<=24
 ae:m.ae.length<=4000
 aC:m.aC.length<=800
 uD:0<=m.rules/\m.rules<=56
 qK:∀ l∈m.cls,∀ o∈l,ej m.rules none o.ch=true
 pr:e7 m none m.ae=true
 ct:∀ c∈m.aC,iW m c=true
def jD{m:ah}:iB m=0↔VM m:=by
 unfold iB;constructor
 ·intro h;split at h
  ·omega
  split at h
  ·omega
  split at h
  ·omega
  split at h
  ·omega
  rename_i h1 h2 h3 h4;have Bg:th m=false:=by simpa using h1
  rw[th,decide_eq_false_iff_not]at Bg;have h5:∀ l∈m.cls,l.length<=24:=λl hl=>by
   rcases du 24 l.length with h|h
   ·exact absurd (.inr (.inl (nA.2 ⟨l,hl,by simpa using h⟩))) Bg
   ·exact h
  refine⟨AT,h5,AT,AT,AT,λl hl o ho=>?_,by simpa using h3,λc hc=>?_⟩
  ·cases hh:ej m.rules none o.ch with
   |true=>rfl
   |false=>exact absurd (nA.2 ⟨l,hl,nA.2 ⟨o,ho,by rw[hh];rfl⟩⟩) h2
  ·cases hh:iW m c with
   |true=>rfl
   |false=>exact absurd (nA.2 ⟨c,hc,by rw[hh];rfl⟩) h4
 ·intro h;have h0:th m=false:=by
   rw[th,decide_eq_false_iff_not];rintro(h'|h'|h'|h'|h'|h')
   ·have:=h.cls;omega
   ·obtain⟨l,hl,uF⟩:=nA.1 h';have:=h.opt l hl;simp only[decide_eq_true_eq]at uF;omega
   ·have:=h.ae;omega
   ·have:=h.aC;omega
   ·have:=h.uD;omega
   ·have:=h.uD;omega
  rw[if_neg (by rw[h0];simp),if_neg,if_neg (by rw[h.pr];simp),if_neg]
  ·intro hh;obtain⟨c,hc,h'⟩:=nA.1 hh;rw[h.ct c hc]at h';simp at h'
  ·intro hh;obtain⟨l,hl,h'⟩:=nA.1 hh;obtain⟨o,ho,uF⟩:=nA.1 h';rw[h.qK l hl o ho]at uF;simp at uF
def GZ{R:Int}:∀ {l:List (Int×Int)} {q:Option (Int×Int)},ej R q l=true->∀ c∈l,jJ R c.1=true/\jo c.2=true
 |[],_,_,c,hc=>by simp at hc
 |x::r,q,h,c,hc=>by
  rw[ej.eq_def]at h;simp only[bg]at h;rcases bm.1 hc with rfl|hc
  ·exact h.1.1
  ·exact GZ h.2 c hc
def K8{R:Int}:∀ {l:List (Int×Int)} {q:Int×Int},ej R (some q) l=true->l=[]\/q.1+l.length<R
 |[],_,_=>.inl rfl
 |x::r,q,h=>by
  right;rw[ej]at h;simp only[bg,decide_eq_true_eq,jJ]at h;rcases K8 h.2 with rfl|h5
  ·simp only[cX,kx];omega
  ·simp only[cX];omega
def Tw{R:Int}{l:List (Int×Int)}(hR:0<=R)(h:ej R none l=true):(l.length:Int)<=R:=by
 cases l with
 |nil=>simpa using hR
 |cons x r =>
  rw[ej]at h;simp only[bg,decide_eq_true_eq,jJ]at h;rcases K8 h.2 with rfl|h5
  ·simp only[cX,kx];omega
  ·simp only[cX];omega
def jG{m:ah}:∀ {l:List Pr} {q:Option Pr},e7 m q l=true->∀ p∈l,gA m p=true
 |[],_,_,c,hc=>by simp at hc
 |x::r,q,h,c,hc=>by
  rw[e7.eq_def]at h;simp only[bg]at h;rcases bm.1 hc with rfl|hc
  ·exact h.1.1
  ·exact jG h.2 c hc
def iN{m:ah}{c o:Int}:jq m c o=true↔0<=c/\c<m.cls.length/\0<=o/\o<(m.cls.getD c.toNat default).length:=by rw[jq,decide_eq_true_eq]
def Tx{m:ah}(h:VM m){c o:Int}(hb:jq m c o=true):0<=c/\c<24/\0<=o/\o<24:=by
 obtain⟨h1,h2,h3,h4⟩:=iN.1 hb;have:=h.cls;have:=h.opt _ (aE (l:=m.cls) (i:=c.toNat) (d:=default) AT);omega
def DW(a b:Int):(a<b/\kd a b = -1)\/(a=b/\kd a b=0)\/(b<a/\kd a b=1):=by
 unfold kd;rcases Int.lt_trichotomy a b with h|h|h
 ·left;exact⟨h,by rw[if_pos h]⟩
 ·right;left;exact⟨h,by rw[if_neg AT,if_neg AT]⟩
 ·right;right;exact⟨h,by rw[if_neg AT,if_pos h]⟩
def G9{a b:Ld}:uE a b<0↔a.cls<b.cls\/(a.cls=b.cls/\a.opt<b.opt):=by
 unfold uE;rcases DW a.cls b.cls with⟨h,e⟩|⟨h,e⟩|⟨h,e⟩<;>rcases DW a.opt b.opt with⟨h',e'⟩|⟨h',e'⟩|⟨h',e'⟩<;>simp[qQ,e,e']<;>omega
def K9{a b:Pr}:ni a b<0↔a.dZ<b.dZ\/(a.dZ=b.dZ/\(a.fst<b.fst\/(a.fst=b.fst/\a.snd<b.snd))):=by
 unfold ni;rcases DW a.dZ b.dZ with⟨h,e⟩|⟨h,e⟩|⟨h,e⟩<;>rcases DW a.fst b.fst with⟨h',e'⟩|⟨h',e'⟩|⟨h',e'⟩<;>rcases DW a.snd b.snd with⟨h2,e2⟩|⟨h2,e2⟩|⟨h2,e2⟩<;>simp[qQ,e,e',e2]<;>omega
def Tz{m:ah}(hm:VM m):∀ {l:List Ld} {q:Ld},eu m (some q) l=true->0<=q.cls/\0<=q.opt/\q.opt<24->l=[]\/q.cls*24+q.opt+l.length<576
 |[],_,_,_=>.inl rfl
 |x::r,q,h,hq=>by
  right;rw[eu]at h;simp only[bg,decide_eq_true_eq]at h;obtain⟨⟨⟨h1,h2⟩,h3⟩,h4⟩:=h;obtain⟨a,b,c,d⟩:=Tx hm h1;have aS:q.cls*24+q.opt<x.cls*24+x.opt:=by
   rcases G9.1 h3 with h|h<;>omega
  rcases Tz hm h4 ⟨a,c,d⟩ with rfl|h5
  ·simp only[cX,kx];omega
  ·simp only[cX];omega
def TA{m:ah}(hm:VM m){l:List Ld}(h:eu m none l=true):l.length<=576:=by
 cases l with
 |nil=>simp
 |cons x r =>
  rw[eu]at h;simp only[bg,decide_eq_true_eq]at h;obtain⟨a,b,c,d⟩:=Tx hm h.1.1.1;rcases Tz hm h.2 ⟨a,c,d⟩ with rfl|h5
  ·simp
  ·simp only[cX];omega
def uA{m:ah}:∀ {l:List Ld} {q:Option Ld},eu m q l=true->∀ x∈l,jq m x.cls x.opt=true/\1<=x.wt/\x.wt<=1000
 |[],_,_,c,hc=>by simp at hc
 |x::r,q,h,c,hc=>by
  rw[eu.eq_def]at h;simp only[bg,decide_eq_true_eq]at h;rcases bm.1 hc with rfl|hc
  ·exact⟨h.1.1.1,h.1.1.2⟩
  ·exact uA h.2 c hc
def GH{most cf sum:Int}(h:bJ cf):bJ (kL most cf sum):=by
 unfold kL bJ at *;split
 ·omega
 ·have:0<=(sum-most)*cf:=re AT h.1;omega
def TB{R:Int}:∀ {l:List (Int×Int)} {out:List Int},lq R out->(∀ c∈l,jo c.2=true)->lq R (BS l out)
 |[],_,h,_=>h
 |c::r,out,h,hc=>by rw[BS];exact TB (h.add (rL (hc c IM))) λx hx=>hc x (by simp[hx])
structure PM(m:ah)(plan:List Int):Prop where
 len:plan.length=m.cls.length
 get:∀ j,j<plan.length->plan.getD j 0 = -1\/jq m (j:Nat) (plan.getD j 0)=true
def qI{m:ah}{p:Pr}(h:gA m p=true):(0<=p.dZ/\p.dZ<m.rules)/\0<=p.fst/\p.fst<p.snd/\p.snd<m.cls.length/\(p.aB.length:Int)=(m.cls.getD p.fst.toNat default).length*(m.cls.getD p.snd.toNat default).length:=by
 unfold gA jJ at h;simp only[bg,decide_eq_true_eq]at h;exact⟨h.1.1,h.1.2⟩
def zV{x y a b:Int}(hx:0<=x/\x<a)(hy:0<=y/\y<b)(ha:a<=24)(hb:b<=24):0<=x*b/\x*b<=576/\x*b+y<a*b:=by
 have h1:0<=x*b:=re hx.1 AT;have h2:x*b<=(a-1)*b:=CF AT AT;have h3:(a-1)*b=a*b-b:=by rw[Int.sub_mul,Int.one_mul]
 have h4:a*b<=24*24:=su ha hb AT AT;omega
def qL{m:ah}{c:Ct}(h:iW m c=true):(0<=c.dZ/\c.dZ<m.rules)/\(0<=c.most/\c.most<=1048576)/\jo c.cf=true/\eu m none c.aZ=true:=by
 unfold iW jJ at h;simp only[bg,decide_eq_true_eq]at h;exact⟨h.1.1.1,h.1.1.2,h.1.2,h.2⟩
def GJ{m:ah}{p:Pr}(hp:gA m p=true)(x y:Int):bJ (zX m p x y):=by
 unfold zX;rcases du (x*(m.cls.getD p.snd.toNat default).length+y).toNat p.aB.length with h|h
 ·unfold gA at hp;simp only[bg,kz,Om]at hp;have:=hp.2 _ (aE (d:=0) h);unfold oG at this;simp only[bg,decide_eq_true_eq,kz,not_and,Bool.not_eq_false]at this;generalize p.aB.getD (x*(m.cls.getD p.snd.toNat default).length+y).toNat 0=n at *;by_cases h0:n=0
  ·subst h0;unfold bJ;decide
  ·exact rL (this h0)
 ·rw[ax,fl h];unfold bJ;decide
def TC{R:Int}{c:Int×Int}:∀ {l:List (Int×Int)} {q:Option (Int×Int)},ej R q l=true->jJ R c.1=true->jo c.2=true->(∀ x∈l,x.1<c.1)->(∀ y,q=some y->y.1<c.1)->ej R q (l++[c])=true
 |[],q,_,h1,h2,_,h3=>by
  rw[gv,ej.eq_def];cases q with
  |none=>simp[h1,h2,ej]
  |some y=>simp[h1,h2,ej,h3 y rfl]
 |x::r,q,h,h1,h2,h3,h4=>by
  rw[ej.eq_def]at h;simp only[bg]at h;rw[ek,ej.eq_def];simp only[bg];exact⟨h.1,TC h.2 h1 h2 (λy hy=>h3 y (by simp[hy])) (λy hy=>by simp only[cy.injEq]at hy;subst hy;exact h3 _ IM)⟩
def TD{m:ah}{c:Pr}:∀ {l:List Pr} {q:Option Pr},e7 m q l=true->gA m c=true->(∀ x∈l,ni x c<0)->(∀ y,q=some y->ni y c<0)->e7 m q (l++[c])=true
 |[],q,_,h1,_,h3=>by
  rw[gv,e7.eq_def];cases q with
  |none=>simp[h1,e7]
  |some y=>simp[h1,e7,h3 y rfl]
 |x::r,q,h,h1,h3,h4=>by
  rw[e7.eq_def]at h;simp only[bg]at h;rw[ek,e7.eq_def];simp only[bg];exact⟨h.1,TD h.2 h1 (λy hy=>h3 y (by simp[hy])) (λy hy=>by simp only[cy.injEq]at hy;subst hy;exact h3 _ IM)⟩
def TE{m:ah}{c:Ld}:∀ {l:List Ld} {q:Option Ld},eu m q l=true->jq m c.cls c.opt=true->(1<=c.wt/\c.wt<=1000)->(∀ x∈l,uE x c<0)->(∀ y,q=some y->uE y c<0)->eu m q (l++[c])=true
 |[],q,_,h1,h2,_,h3=>by
  rw[gv,eu.eq_def];cases q with
  |none=>simp[h1,h2,eu]
  |some y=>simp[h1,h2,eu,h3 y rfl]
 |x::r,q,h,h1,h2,h3,h4=>by
  rw[eu.eq_def]at h;simp only[bg]at h;rw[ek,eu.eq_def];simp only[bg];exact⟨h.1,TE h.2 h1 h2 (λy hy=>h3 y (by simp[hy])) (λy hy=>by simp only[cy.injEq]at hy;subst hy;exact h3 _ IM)⟩
def TF{cls:List (List cP)}{R:Int}{a b:List Pr}{c d:List Ct}:∀ (l:List Pr) (q:Option Pr),e7 ⟨cls,a,c,R⟩ q l=e7 ⟨cls,b,d,R⟩ q l
 |[],_=>rfl
 |x::r,q=>by
  have:=TF (cls:=cls) (R:=R) (a:=a) (b:=b) (c:=c) (d:=d) r (some x);cases q<;>simp only[e7,this]<;>rfl
def TG{cls:List (List cP)}{R:Int}{a b:List Pr}{c d:List Ct}:∀ (l:List Ld) (q:Option Ld),eu ⟨cls,a,c,R⟩ q l=eu ⟨cls,b,d,R⟩ q l
 |[],_=>rfl
 |x::r,q=>by
  have:=TG (cls:=cls) (R:=R) (a:=a) (b:=b) (c:=c) (d:=d) r (some x);cases q<;>simp only[eu,this]<;>rfl
def afF{cls:List (List cP)}{R:Int}{a b:List Pr}{c d:List Ct}(x:Ct):iW ⟨cls,a,c,R⟩ x=iW ⟨cls,b,d,R⟩ x:=by
 unfold iW;rw[TG (a:=a) (b:=b) (c:=c) (d:=d)]
def K'(L:List Int)(k:Nat):0<=pJ L k/\pJ L k<=1099511627776/\(0<pJ L k->jo (pJ L k)=true):=by
 have h6:=qG (L:=L) (k:=k) (n:=6) AT;have h20:=qG (L:=L) (k:=eZ L k) (n:=20) AT;unfold pJ;split
 ·exact⟨AT,AT,AT⟩
 ·split
  ·exact⟨AT,AT,λ_=>IP⟩
  ·refine⟨AT,AT,λ_=>?_⟩;rw[jo,decide_eq_true_eq];omega
def La{L:List Int}{k:Nat}(h:k<=L.length):vD L k<=L.length:=by
 unfold vD;split
 ·exact lP h
 ·exact lP (lP h)
structure MM(m:ah)(vF options:Nat):Prop where
 vm:VM m
 sZ:m.cls.length<=vF
 some:∀ l∈m.cls,1<=l.length/\l.length<=options
 uD:1<=m.rules/\m.rules<=4
 aC:m.aC.length<=2
 wk:∀ l∈m.cls,∀ o∈l,o.wk<=3
def VM.mb{m:ah}(h:VM m):MB m:=by
 refine⟨by have:=h.cls;omega,λl hl=>by have:=h.opt l hl;omega,λl hl o ho=>?_,by have:=h.ae;omega,λp hp=>?_,by have:=h.aC;omega,λc hc=>?_⟩
 ·have:=Tw h.uD.1 (h.qK l hl o ho);have:=h.uD;omega
 ·obtain⟨_,h1,h2,h3,h4⟩:=qI (jG h.pr p hp);have a:=h.opt _ (aE (l:=m.cls) (i:=p.fst.toNat) (d:=default) AT);have b:=h.opt _ (aE (l:=m.cls) (i:=p.snd.toNat) (d:=default) AT);have:((m.cls.getD p.fst.toNat default).length:Int)*(m.cls.getD p.snd.toNat default).length<=24*24:=su AT AT AT AT;omega
 ·have:=TA h (qL (h.ct c hc)).2.2.2;omega
def cK(L:List Int)(k:Nat)(cls:List (List cP))(ae:List Pr)(aC:List Ct)(R:Int):List Ob :=
 [.var [.tree 1 (ints L),Oi k],.var [.lit (.slice none 0 0),.lit (.slice none 0 0),.lit (.slice none 0 0),Oi 0],
  .var [.ref 3 1 0 cls.length,.ref 4 4 0 ae.length,.ref 5 4 0 aC.length,Oi R],.arr 1 (rowsOf aV cls),.arr 4 (rowsOf aG ae),.arr 4 (rowsOf df aC)]
def TH(R:Int)(l:List cP):Prop:=∀ o∈l,ej R none o.ch=true/\o.wk<=3
def DX(p:Pr)(u i k:Nat):Prop:=p.dZ<u\/(p.dZ=u/\(p.fst<i\/(p.fst=i/\p.snd<k)))
structure xc(cls:List (List cP))(R:Int)(ae:List Pr)(u i k:Nat):Prop where
 ok:e7 ⟨cls,[],[],R⟩ none ae=true
 lt:∀ p∈ae,DX p u i k
 len:ae.length<=576*u+24*i+k
def xc.mono{cls:List (List cP)}{R:Int}{ae:List Pr}{u i k u' i' k':Nat}(h:xc cls R ae u i k)(hl:u<u'\/(u=u'/\(i<i'\/(i=i'/\k<=k'))))(hs:576*u+24*i+k<=576*u'+24*i'+k'):xc cls R ae u' i' k' :=
 ⟨h.ok,λp hp=>by have:=h.lt p hp;unfold DX at *;omega,by have:=h.len;omega⟩
def xc.app{cls:List (List cP)}{R:Int}{ae:List Pr}{u i k:Nat}(h:xc cls R ae u i k){aB:List Int}(hp:gA ⟨cls,[],[],R⟩ ⟨i,k,u,aB⟩=true):xc cls R (ae++[⟨i,k,u,aB⟩]) u i (k+1):=by
 refine⟨TD h.ok hp (λx hx=>?_) IM,λp hp=>?_,by have:=h.len;simp;omega⟩
 ·have:=h.lt x hx;rw[K9];unfold DX at this;dsimp only;omega
 ·rcases cT.1 hp with hp|hp
  ·have:=h.lt p hp;unfold DX at *;omega
  ·simp only[c8]at hp;subst hp;unfold DX;dsimp only;omega
def afH{cls:List (List cP)}{R:Int}{aB:List Int}{i k u:Nat}(hu:(u:Int)<R)(hik:i<k)(hk:k<cls.length)(ht:aB.length=(cls.getD i default).length*(cls.getD k default).length)(hc:∀ x∈aB,0<=x/\(0<x->jo x=true)):
  gA ⟨cls,[],[],R⟩ ⟨i,k,u,aB⟩=true:=by
 unfold gA jJ;simp only[bg,decide_eq_true_eq,kz,Int.toNat_natCast,Om];refine⟨⟨⟨AT,hu⟩,AT,AT,AT,?_⟩,λx hx=>?_⟩
 ·rw[ht];simp
 ·unfold oG;have:=hc x hx;by_cases h0:x=0
  ·subst h0;decide
  ·rw[this.2 AT];simp
structure yC(cls:List (List cP))(R:Int)(l:List Ld)(i k:Nat):Prop where
 ok:eu ⟨cls,[],[],R⟩ none l=true
 lt:∀ x∈l,x.cls<i\/(x.cls=i/\x.opt<k)
 len:l.length<=24*i+k
def yC.mono{cls:List (List cP)}{R:Int}{l:List Ld}{i k i' k':Nat}(h:yC cls R l i k)(hl:i<i'\/(i=i'/\k<=k'))(hs:24*i+k<=24*i'+k'):yC cls R l i' k' :=
 ⟨h.ok,λp hp=>by have:=h.lt p hp;omega,by have:=h.len;omega⟩
def yC.app{cls:List (List cP)}{R:Int}{l:List Ld}{i k:Nat}(h:yC cls R l i k){w:Int}(hi:i<cls.length)(hk:k<(cls.getD i default).length)(hw:1<=w/\w<=1000):yC cls R (l++[⟨i,k,w⟩]) i (k+1):=by
 refine⟨TE h.ok (iN.2 ⟨NZ,NZ,NZ,by simp;exact hk⟩) hw (λx hx=>?_) IM,λp hp=>?_,by have:=h.len;simp;omega⟩
 ·have:=h.lt x hx;rw[G9];dsimp only;omega
 ·rcases cT.1 hp with hp|hp
  ·have:=h.lt p hp;omega
  ·simp only[c8]at hp;subst hp;dsimp only;omega
def TI:(default:cP).ch=[]:=rfl
def TJ{m:ah}(hm:VM m):∀ (plan:List Int) (i:Nat) (out:List Int),lq m.rules out->lq m.rules (BT m i plan out)
 |[],_,_,h=>h
 |o::r,i,out,h=>by
  rw[BT];refine TJ hm r (i+1) _ ?_;split
  ·exact h
  ·refine TB h λc hc=>?_;rcases du i m.cls.length with hi|hi
   ·have hl:=aE (d:=(default:List cP)) hi;generalize m.cls.getD i default=l at *;rcases du o.toNat l.length with ho|ho
    ·exact(GZ (hm.qK l hl _ (aE ho)) c hc).2
    ·rw[show l.getD o.toNat default=default by rw[ax,fl ho];rfl]at hc;exact absurd hc (by rw[TI];simp)
   ·rw[show m.cls.getD i default=[] by rw[ax,fl hi];rfl]at hc;exact absurd hc (by rw[List.getD_nil,TI];simp)
def TK{m:ah}{plan:List Int}:∀ (l:List Pr) (out:List Int),(∀ p∈l,gA m p=true)->lq m.rules out->lq m.rules (BU m plan l out)
 |[],_,_,h=>h
 |p::r,out,hp,h=>by
  rw[BU];refine TK r _ (λq hq=>hp q (by simp[hq])) ?_;split
  ·exact h.add (GJ (hp p IM) _ _)
  ·exact h
def TL{m:ah}{plan:List Int}:∀ (l:List Ct) (out:List Int),(∀ c∈l,iW m c=true)->lq m.rules out->lq m.rules (BV plan l out)
 |[],_,_,h=>h
 |c::r,out,hp,h=>by
  rw[BV];exact TL r _ (λq hq=>hp q (by simp[hq])) (h.add (GH (rL (qL (hp c IM)).2.2.1)))
def afs{m:ah}(hm:VM m)(plan:List Int):lq m.rules (rK m plan) :=
 TL _ _ hm.ct (TK _ _ (jG hm.pr) (TJ hm _ _ _ (lq.rep hm.uD.1)))
def j9:List Int->Int
 |[]=>0
 |x::r=>x+j9 r
def Lb:∀ {l:List Int},(∀ x∈l,bJ x)->0<=j9 l/\j9 l<=1099511627776*l.length
 |[],_=>by simp[j9]
 |x::r,h=>by
  have:=Lb λy hy=>h y (List.mem_cons_of_mem x hy);have:=h x IM;unfold bJ at this;simp only[j9,cX];omega
def Ta:∀ {l:List Int} {n:Int},(∀ x∈l,bJ x)->bJ n->pz l n=min (n+j9 l) 1099511627776
 |[],n,_,hn=>by unfold bJ at hn;simp only[pz,j9];omega
 |x::r,n,h,hn=>by
  have hx:=h x IM;have hr:∀ y∈r,bJ y:=λy hy=>h y (by simp[hy]);rw[pz,Ta hr (DP hn hx)];have:=Lb hr;unfold bJ at hx hn;simp only[dW,j9];omega
def KX:∀ {l:List Int},(∀ x∈l,bJ x)->∀ x∈l,x<=j9 l
 |[],_,x,hx=>by simp at hx
 |y::r,h,x,hx=>by
  have hr:∀ z∈r,bJ z:=λz hz=>h z (by simp[hz]);have:=(Lb hr).1;have hy:=h y IM;unfold bJ at hy;rcases bm.1 hx with rfl|hx
  ·simp only[j9];omega
  ·have:=KX hr x hx;simp only[j9];omega
def LE(a b:List Int):Prop:=a.length=b.length/\∀ i,a.getD i 0<=b.getD i 0
def LE.refl(a:List Int):LE a a:=⟨rfl,λ_=>kB _⟩
def yD(l:List Int)(n i:Nat)(x:Int):(l.set n x).getD i 0=if n=i/\i<l.length then x else l.getD i 0:=by
 rw[ax,List.getElem?_set,ax];by_cases h:n=i
 ·subst h;by_cases h2:n<l.length
  ·rw[if_pos rfl,if_pos h2,if_pos ⟨rfl,h2⟩];rfl
  ·rw[if_pos rfl,if_neg h2,if_neg (λh=>h2 h.2),fl AT]
 ·rw[if_neg h,if_neg (λh'=>h h'.1)]
def LE.add{a b:List Int}(h:LE a b){r c d:Int}(hcd:c<=d):LE (iq a r c) (iq b r d):=by
 refine⟨by simp only[iq,bw];exact h.1,λi=>?_⟩;rw[iq,iq,yD,yD,h.1];have:=h.2 i;have:=h.2 r.toNat;split
 ·unfold dW;omega
 ·exact h.2 i
def LE.up{R:Int}{a b:List Int}(h:LE a b)(hb:lq R b){r c:Int}(hc:0<=c):LE a (iq b r c):=by
 refine⟨by simp only[iq,bw];exact h.1,λi=>?_⟩;rw[iq,yD];have h1:=h.2 i;have h2:=hb.get i;unfold bJ at h2;split
 ·rename_i hh;rw[hh.1];unfold dW;omega
 ·exact h1
def Up(p q:List Int):Prop:=p.length=q.length/\∀ j,p.getD j 0=q.getD j 0\/p.getD j 0<0
def Sl{most cf s t:Int}(hp:0<=cf)(h:s<=t):kL most cf s<=kL most cf t:=by
 unfold kL;have h1:(s-most)*cf<=(t-most)*cf:=CF AT hp;split
 ·split
  ·exact kB _
  ·have:0<=(t-most)*cf:=re AT hp;omega
 ·rw[if_neg AT];omega
def Up.set{p:List Int}{c:Nat}(o:Int)(h:p.getD c 0 = -1):Up p (p.set c o):=by
 refine⟨IM,λj=>?_⟩;rw[yD];split
 ·rename_i hh;rw[<- hh.1,h];omega
 ·exact .inl rfl
def PM.set{m:ah}{p:List Int}(h:PM m p){c:Nat}{o:Int}(ho:o = -1\/jq m (c:Nat) o=true):PM m (p.set c o):=by
 refine⟨by rw[bw];exact h.len,λj hj=>?_⟩;rw[bw]at hj;rw[yD];split
 ·rename_i hh;rw[<- hh.1];exact ho
 ·exact h.get j hj
def G'(left:List (List Int))(f:Nat)(xs:List Int)(i:Nat)(seen:List Bool)(owner:List Int):Bool×List Bool×List Int :=
  match xs with
  |[]=>(false,seen,owner)
  |x::r =>
    if seen.getD x.toNat false=true then G' left f r i seen owner
    else if owner.getD x.toNat 0<0 then(true,seen.set x.toNat true,owner.set x.toNat i)
    else match f with
      |0=>(false,seen.set x.toNat true,owner)
      |f+1 =>
        let q:=G' left f (left.getD (owner.getD x.toNat 0).toNat []) (owner.getD x.toNat 0).toNat (seen.set x.toNat true) owner
        if q.1=true then(true,q.2.1,q.2.2.set x.toNat i) else G' left (f+1) r i q.2.1 q.2.2
 termination_by (f,xs.length)
def qS(seen:List Bool):Nat:=seen.count false
def afI(seen:List Bool)(n:Nat)(h:n<seen.length)(hf:seen.getD n false=false):qS (seen.set n true)+1=qS seen:=by
 unfold qS;rw[List.count_set h];have:seen[n]=false:=by simpa [h] using hf
 have h1:0<seen.count false:=List.count_pos_iff.2 (by rw[<- this];exact oV h);simp[this];omega
def xd(n:Nat)(R:Nat)(owner:List Int):Prop:=owner.length=R/\∀ o∈owner,-1<=o/\o<n
def z8(R:Nat)(left:List (List Int)):Prop:=left.length<1000000/\∀ l∈left,l.length<1000000/\∀ x∈l,0<=x/\x<R
def xd.set{n R:Nat}{owner:List Int}(h:xd n R owner){x i:Nat}(hi:i<n):xd n R (owner.set x i) :=
 ⟨by simpa using h.1,λo ho=>by
  rcases tP ho with h'|h'
  ·exact h.2 o h'
  ·subst h';omega⟩
def xd.get{n R:Nat}{owner:List Int}(h:xd n R owner){x:Nat}(hx:x<R): -1<=owner.getD x 0/\owner.getD x 0<n:=by
 have hl:x<owner.length:=by rw[h.1];exact hx
 rw[ax,bq hl];exact h.2 _ (oV hl)
def z8.get{R:Nat}{left:List (List Int)}(h:z8 R left)(i:Nat):(left.getD i []).length<1000000/\∀ x∈left.getD i [],0<=x/\x<R:=by
 rcases du i left.length with hi|hi
 ·rw[ax,bq hi];exact h.2 _ (oV hi)
 ·rw[ax,fl hi];simp
def Le(left:List (List Int))(R:Nat)(zT:Int):Nat->Nat->Nat->List Int->Nat
 |0,_,n,_=>n
 |c+1,i,n,owner =>
  if(i:Int)=zT then Le left R zT c (i+1) n owner
  else
   let q:=G' left R (left.getD i []) i (aO R false) owner
   Le left R zT c (i+1) (if q.1=true then n+1 else n) q.2.2
def size(left:List (List Int))(R:Nat)(zT:Int):Nat:=Le left R zT left.length 0 0 (aO R (-1))
def afJ(R:Nat):qS (aO R false)=R:=by simp[qS]
def xd.rep(n R:Nat):xd n R (aO R (-1)):=⟨IM,λo ho=>by
 have:=E2 ho;subst this;omega⟩
def rO(left:List (List Int))(f:Nat)(xs:List Int)(i:Nat)(seen:List Bool)(owner number:List Int):Bool×List Bool×List Int×List Int :=
  match xs with
  |[]=>(false,seen,owner,number)
  |x::r =>
    if seen.getD x.toNat false=true then rO left f r i seen owner number
    else if owner.getD x.toNat 0<0 then(true,seen.set x.toNat true,owner.set x.toNat i,number.set i x)
    else match f with
      |0=>(false,seen.set x.toNat true,owner,number)
      |f+1 =>
        let q:=rO left f (left.getD (owner.getD x.toNat 0).toNat []) (owner.getD x.toNat 0).toNat (seen.set x.toNat true) owner number
        if q.1=true then(true,q.2.1,q.2.2.1.set x.toNat i,q.2.2.2.set i x) else rO left (f+1) r i q.2.1 q.2.2.1 q.2.2.2
 termination_by (f,xs.length)
end T

