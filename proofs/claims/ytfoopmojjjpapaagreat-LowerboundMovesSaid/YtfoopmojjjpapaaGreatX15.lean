import Derived.Test.YtfoopmojjjpapaaGreatX10
set_option linter.all false
set_option maxHeartbeats 0
set_option maxRecDepth 20000
open Int renaming tmod_eq_emod_of_nonneg→N1,mul_nonneg→rZ
open List renaming getD_eq_getElem?_getD→aB,getElem?_eq_getElem→bT,getElem_mem→tK,replicate→aJ,getElem?_eq_none→gj,mem_or_eq_of_mem_set→qU,eq_of_mem_replicate→AM,any_eq_true→wE,mem_cons→bj,length_cons→dt,length_nil→nR
open Nat renaming lt_or_ge→dE
open Bool renaming and_eq_true→aZ,not_eq_true'→kH
open Go Go.Am
namespace T
def Rc:=aaF @cf @fS @JU @Qv @JV @JW @vr
def cS(x:Int):Prop:=-9223372036854775808<=x/\x<=9223372036854775807
def vw(n m:Int):Int:=if m<1 then 0 else n%m
def V6(n m:Int)(hm:0<m):0<=vw n m/\vw n m<m:=by
 unfold vw;rw[if_neg Ix];exact⟨Int.emod_nonneg _ Ix,Int.emod_lt_of_pos _ Ix⟩
def Kb(n m:Int)(hm:0<m):(n.tmod m<0->n%m=n.tmod m+m)/\(0<=n.tmod m->n%m=n.tmod m)/\-m<n.tmod m/\n.tmod m<m:=by
 have h1:=Int.emod_nonneg n (show m≠0 by omega);have h2:=Int.emod_lt_of_pos n hm;rcases Int.lt_or_le n 0 with hn|hn
 ·have h3:n.tmod m = -((-n)%m):=by
   have:=Int.neg_tmod (a:=-n) (b:=m);rw[Int.neg_neg]at this;rw[this,N1 Ix]
  have h4:=Int.emod_nonneg (-n) (show m≠0 by omega);have h5:=Int.emod_lt_of_pos (-n) hm;have h6:=Int.mul_ediv_add_emod n m;have h7:=Int.mul_ediv_add_emod (-n) m;have key:(n%m=0/\(-n)%m=0)\/n%m=m-(-n)%m:=by
   by_cases hz:(-n)%m=0
   ·left;have hd:m ∣ -n:=Int.dvd_of_emod_eq_zero hz;have ua:m ∣ n:=(Int.dvd_neg).1 hd;exact⟨Int.emod_eq_zero_of_dvd ua,hz⟩
   ·right;have:n=m*(-((-n)/m)-1)+(m-(-n)%m):=by
     have : -n=m*((-n)/m)+(-n)%m:=h7.symm;rw[Int.mul_sub,Int.mul_neg];omega
    rw[this,Int.mul_add_emod_self_left];rw[<- this];exact Int.emod_eq_of_lt Ix Ix
  rw[h3];refine⟨?_,?_,?_,?_⟩<;>omega
 ·rw[N1 hn];refine⟨?_,?_,?_,?_⟩<;>omega
def dN(L:List Int)(Bx:Nat)(n:Int):Int:=if Bx >= L.length then 0 else vw (L.getD Bx 0) n
def cj(L:List Int)(Bx:Nat):Nat:=if Bx >= L.length then Bx else Bx+1
def eQ{L:List Int}{k:Nat}(h:k<=L.length):cj L k<=L.length:=by unfold cj;split<;>omega
def jB{L:List Int}{k:Nat}{n:Int}(h:0<n):0<=dN L k n/\dN L k n<n:=by
 unfold dN;split
 ·omega
 ·exact V6 _ _ h
def w0(L:List Int)(k:Nat)(n:Int):Bool:=decide (dN L k n=n-1)
def aG{α:Type}{l:List α}{i:Nat}{d:α}(h:i<l.length):l.getD i d∈l:=by
 rw[aB,bT h];exact tK h
def dZ(a b:Int):Int:=min (a+b) 1099511627776
def jk(n:Int):Bool:=decide ((1<=n/\n<=1048576)\/n=1099511627776)
def jA(R n:Int):Bool:=decide (0<=n/\n<R)
def jl(m:ah)(c o:Int):Bool:=decide (0<=c/\c<m.cls.length/\0<=o/\o<(m.cls.getD c.toNat default).length)
def j5(a b:Int):Int:=if a<b then -1 else if b<a then 1 else 0
def qx:List Int->Int
 |[]=>0
 |x::r=>if x≠0 then x else qx r
def kQ(most bX sum:Int):Int:=if sum<=most then 0 else min ((sum-most)*bX) 1099511627776
def Bt(n c:Int):Int:=if n<=0 then 0 else if 1099511627776<=c then 1099511627776 else min (n*c) 1099511627776
def py(L:List Int)(k:Nat):Int:=if dN L k 6<3 then 0 else if dN L k 6=3 then 1099511627776 else 1+dN L (cj L k) 20
def vz(L:List Int)(k:Nat):Nat:=if dN L k 6<=3 then cj L k else cj L (cj L k)
def qw{α:Type}[Inhabited α](l:List α)(k:Nat):Option α:=if k=0 then none else some (l.getD (k-1) default)
def eh(R:Int):Option (Int×Int)->List (Int×Int)->Bool
 |_,[]=>true
 |q,c::r=>(jA R c.1&&jk c.2&&(match q with|none=>true|some q=>decide (q.1<c.1)))&&eh R (some c) r
def mX(a b:Pr):Int:=qx [j5 a.dL b.dL,j5 a.fst b.fst,j5 a.snd b.snd]
def oB(n:Int):Bool:=decide (n≠0)&&!jk n
def gB(m:ah)(p:Pr):Bool:=jA m.rules p.dL&&decide (0<=p.fst/\p.fst<p.snd/\p.snd<m.cls.length/\(p.ax.length:Int)=(m.cls.getD p.fst.toNat default).length*(m.cls.getD p.snd.toNat default).length)&&!p.ax.any oB
def fj(m:ah):Option Pr->List Pr->Bool
 |_,[]=>true
 |q,p::r=>(gB m p&&(match q with|none=>true|some q=>decide (mX q p<0)))&&fj m (some p) r
def um(a b:Ld):Int:=qx [j5 a.cls b.cls,j5 a.opt b.opt]
def er(m:ah):Option Ld->List Ld->Bool
 |_,[]=>true
 |q,x::r=>(jl m x.cls x.opt&&decide (1<=x.wt/\x.wt<=1000)&&(match q with|none=>true|some q=>decide (um q x<0)))&&er m (some x) r
def iV(m:ah)(c:Ct):Bool:=jA m.rules c.dL&&decide (0<=c.most/\c.most<=1048576)&&jk c.bX&&er m none c.aY
def sQ(m:ah):Bool:=decide (24<m.cls.length\/m.cls.any (λl=>decide (24<l.length))=true\/4000<m.ae.length\/800<m.aC.length\/m.rules<0\/56<m.rules)
def jO(m:ah):Int:=if sQ m=true then 2 else if(m.cls.any λl=>l.any λo=>!eh m.rules none o.ch)=true then 1 else if fj m none m.ae=false then 1 else if(m.aC.any λc=>!iV m c)=true then 1 else 0
def wY{α:Type}[Inhabited α](l:List α)(k:Nat):qw l (k+1)=some (l.getD k default):=by simp[qw]
def QV{R:Int}{l r:List (Int×Int)}{k:Nat}{c:Int×Int}:eh R (qw l k) (c::r)=((jA R c.1&&jk c.2&&(decide (k=0)||decide ((l.getD (k-1) default).1<c.1)))&&eh R (some c) r):=by
 by_cases h:k=0<;>simp[qw,h,eh]
def QY{m:ah}{l r:List Pr}{k:Nat}{p:Pr}:fj m (qw l k) (p::r)=((gB m p&&(decide (k=0)||decide (mX (l.getD (k-1) default) p<0)))&&fj m (some p) r):=by
 by_cases h:k=0<;>simp[qw,h,fj]
def QX{m:ah}{l r:List Ld}{k:Nat}{x:Ld}:er m (qw l k) (x::r)=((jl m x.cls x.opt&&decide (1<=x.wt/\x.wt<=1000)&&(decide (k=0)||decide (um (l.getD (k-1) default) x<0)))&&er m (some x) r):=by
 by_cases h:k=0<;>simp[qw,h,er]
structure MB(m:ah):Prop where
 cls:m.cls.length<9223372036854775808
 opt:∀ l∈m.cls,l.length<9223372036854775808
 ch:∀ l∈m.cls,∀ o∈l,o.ch.length<9223372036854775808
 ae:m.ae.length<9223372036854775808
 ax:∀ p∈m.ae,p.ax.length<9223372036854775808
 aC:m.aC.length<9223372036854775808
 lk:∀ c∈m.aC,c.aY.length<9223372036854775808
def ij(out:List Int)(r c:Int):List Int:=out.set r.toNat (dZ (out.getD r.toNat 0) c)
def By:List (Int×Int)->List Int->List Int
 |[],out=>out
 |c::r,out=>By r (ij out c.1 c.2)
def Bz(m:ah):Nat->List Int->List Int->List Int
 |_,[],out=>out
 |i,o::r,out=>Bz m (i+1) r (if o<0 then out else By ((m.cls.getD i default).getD o.toNat default).ch out)
def zM(m:ah)(p:Pr)(x y:Int):Int:=p.ax.getD (x*(m.cls.getD p.snd.toNat default).length+y).toNat 0
def BA(m:ah)(plan:List Int):List Pr->List Int->List Int
 |[],out=>out
 |p::r,out=>BA m plan r (if 0<=plan.getD p.fst.toNat 0/\0<=plan.getD p.snd.toNat 0 then ij out p.dL (zM m p (plan.getD p.fst.toNat 0) (plan.getD p.snd.toNat 0)) else out)
def yn(plan:List Int):List Ld->Int->Int
 |[],n=>n
 |x::r,n=>yn plan r (if plan.getD x.cls.toNat 0=x.opt then n+x.wt else n)
def BC(plan:List Int):List Ct->List Int->List Int
 |[],out=>out
 |c::r,out=>BC plan r (ij out c.dL (kQ c.most c.bX (yn plan c.aY 0)))
def vG:List Int->Int->Int
 |[],n=>n
 |x::r,n=>vG r (dZ n x)
def yo(m:ah)(plan:List Int):List Int:=BC plan m.aC (BA m plan m.ae (Bz m 0 plan (aJ m.rules.toNat 0)))
def bM(x:Int):Prop:=0<=x/\x<=1099511627776
def Dm{a b:Int}(ha:bM a)(hb:bM b):bM (dZ a b):=by unfold bM dZ at *;omega
def uz{n:Int}(h:jk n=true):bM n:=by unfold jk at h;rw[decide_eq_true_eq]at h;unfold bM;omega
def ln(R:Int)(out:List Int):Prop:=(out.length:Int)=R/\∀ x∈out,bM x
def ln.get{R:Int}{out:List Int}(h:ln R out)(i:Nat):bM (out.getD i 0):=by
 rcases dE i out.length with hi|hi
 ·exact h.2 _ (aG hi)
 ·rw[aB,gj hi];unfold bM;decide
def ln.add{R:Int}{out:List Int}(h:ln R out){r c:Int}(hc:bM c):ln R (ij out r c) :=
 ⟨by rw[ij,List.length_set];exact h.1,λx hx=>by
  rcases qU hx with h'|h'
  ·exact h.2 x h'
  ·rw[h'];exact Dm (h.get _) hc⟩
def ln.rep{R:Int}(hR:0<=R):ln R (aJ R.toNat 0):=⟨NS,λx hx=>by
 have:=AM hx;subst this;unfold bM;decide⟩
structure VM(m:ah):Prop where
 cls:m.cls.length<=24
 opt:∀ l∈m.cls,l.length<=24
 ae:m.ae.length<=4000
 aC:m.aC.length<=800
 uA:0<=m.rules/\m.rules<=56
 rz:∀ l∈m.cls,∀ o∈l,eh m.rules none o.ch=true
 pr:fj m none m.ae=true
 ct:∀ c∈m.aC,iV m c=true
def rA{m:ah}:jO m=0↔VM m:=by
 unfold jO;constructor
 ·intro h;split at h
  ·omega
  split at h
  ·omega
  split at h
  ·omega
  split at h
  ·omega
  rename_i h1 h2 h3 h4;have Jl:sQ m=false:=by simpa using h1
  rw[sQ,decide_eq_false_iff_not]at Jl;have h5:∀ l∈m.cls,l.length<=24:=λl hl=>by
   rcases dE 24 l.length with h|h
   ·exact absurd (.inr (.inl (wE.2 ⟨l,hl,by simpa using h⟩))) Jl
   ·exact h
  refine⟨Ix,h5,Ix,Ix,Ix,λl hl o ho=>?_,by simpa using h3,λc hc=>?_⟩
  ·cases hh:eh m.rules none o.ch with
   |true=>rfl
   |false=>exact absurd (wE.2 ⟨l,hl,wE.2 ⟨o,ho,by rw[hh];rfl⟩⟩) h2
  ·cases hh:iV m c with
   |true=>rfl
   |false=>exact absurd (wE.2 ⟨c,hc,by rw[hh];rfl⟩) h4
 ·intro h;have h0:sQ m=false:=by
   rw[sQ,decide_eq_false_iff_not];rintro(h'|h'|h'|h'|h'|h')
   ·have:=h.cls;omega
   ·obtain⟨l,hl,uB⟩:=wE.1 h';have:=h.opt l hl;simp only[decide_eq_true_eq]at uB;omega
   ·have:=h.ae;omega
   ·have:=h.aC;omega
   ·have:=h.uA;omega
   ·have:=h.uA;omega
  rw[if_neg (by rw[h0];simp),if_neg,if_neg (by rw[h.pr];simp),if_neg]
  ·intro hh;obtain⟨c,hc,h'⟩:=wE.1 hh;rw[h.ct c hc]at h';simp at h'
  ·intro hh;obtain⟨l,hl,h'⟩:=wE.1 hh;obtain⟨o,ho,uB⟩:=wE.1 h';rw[h.rz l hl o ho]at uB;simp at uB
def Gx{R:Int}:∀ {l:List (Int×Int)} {q:Option (Int×Int)},eh R q l=true->∀ c∈l,jA R c.1=true/\jk c.2=true
 |[],_,_,c,hc=>by simp at hc
 |x::r,q,h,c,hc=>by
  rw[eh.eq_def]at h;simp only[aZ]at h;rcases bj.1 hc with rfl|hc
  ·exact h.1.1
  ·exact Gx h.2 c hc
def Ks{R:Int}:∀ {l:List (Int×Int)} {q:Int×Int},eh R (some q) l=true->l=[]\/q.1+l.length<R
 |[],_,_=>.inl rfl
 |x::r,q,h=>by
  right;rw[eh]at h;simp only[aZ,decide_eq_true_eq,jA]at h;rcases Ks h.2 with rfl|h5
  ·simp only[dt,nR];omega
  ·simp only[dt];omega
def V7{R:Int}{l:List (Int×Int)}(hR:0<=R)(h:eh R none l=true):(l.length:Int)<=R:=by
 cases l with
 |nil=>simpa using hR
 |cons x r =>
  rw[eh]at h;simp only[aZ,decide_eq_true_eq,jA]at h;rcases Ks h.2 with rfl|h5
  ·simp only[dt,nR];omega
  ·simp only[dt];omega
def jP{m:ah}:∀ {l:List Pr} {q:Option Pr},fj m q l=true->∀ p∈l,gB m p=true
 |[],_,_,c,hc=>by simp at hc
 |x::r,q,h,c,hc=>by
  rw[fj.eq_def]at h;simp only[aZ]at h;rcases bj.1 hc with rfl|hc
  ·exact h.1.1
  ·exact jP h.2 c hc
def kR{m:ah}{c o:Int}:jl m c o=true↔0<=c/\c<m.cls.length/\0<=o/\o<(m.cls.getD c.toNat default).length:=by rw[jl,decide_eq_true_eq]
def V8{m:ah}(h:VM m){c o:Int}(hb:jl m c o=true):0<=c/\c<24/\0<=o/\o<24:=by
 obtain⟨h1,h2,h3,h4⟩:=kR.1 hb;have:=h.cls;have:=h.opt _ (aG (l:=m.cls) (i:=c.toNat) (d:=default) Ix);omega
def Dp(a b:Int):(a<b/\j5 a b = -1)\/(a=b/\j5 a b=0)\/(b<a/\j5 a b=1):=by
 unfold j5;rcases Int.lt_trichotomy a b with h|h|h
 ·left;exact⟨h,by rw[if_pos h]⟩
 ·right;left;exact⟨h,by rw[if_neg Ix,if_neg Ix]⟩
 ·right;right;exact⟨h,by rw[if_neg Ix,if_pos h]⟩
def Gy{a b:Ld}:um a b<0↔a.cls<b.cls\/(a.cls=b.cls/\a.opt<b.opt):=by
 unfold um;rcases Dp a.cls b.cls with⟨h,e⟩|⟨h,e⟩|⟨h,e⟩<;>rcases Dp a.opt b.opt with⟨h',e'⟩|⟨h',e'⟩|⟨h',e'⟩<;>simp[qx,e,e']<;>omega
def Kt{a b:Pr}:mX a b<0↔a.dL<b.dL\/(a.dL=b.dL/\(a.fst<b.fst\/(a.fst=b.fst/\a.snd<b.snd))):=by
 unfold mX;rcases Dp a.dL b.dL with⟨h,e⟩|⟨h,e⟩|⟨h,e⟩<;>rcases Dp a.fst b.fst with⟨h',e'⟩|⟨h',e'⟩|⟨h',e'⟩<;>rcases Dp a.snd b.snd with⟨h2,e2⟩|⟨h2,e2⟩|⟨h2,e2⟩<;>simp[qx,e,e',e2]<;>omega
def V9{m:ah}(hm:VM m):∀ {l:List Ld} {q:Ld},er m (some q) l=true->0<=q.cls/\0<=q.opt/\q.opt<24->l=[]\/q.cls*24+q.opt+l.length<576
 |[],_,_,_=>.inl rfl
 |x::r,q,h,hq=>by
  right;rw[er]at h;simp only[aZ,decide_eq_true_eq]at h;obtain⟨⟨⟨h1,h2⟩,h3⟩,h4⟩:=h;obtain⟨a,b,c,d⟩:=V8 hm h1;have a6:q.cls*24+q.opt<x.cls*24+x.opt:=by
   rcases Gy.1 h3 with h|h<;>omega
  rcases V9 hm h4 ⟨a,c,d⟩ with rfl|h5
  ·simp only[dt,nR];omega
  ·simp only[dt];omega
def V'{m:ah}(hm:VM m){l:List Ld}(h:er m none l=true):l.length<=576:=by
 cases l with
 |nil=>simp
 |cons x r =>
  rw[er]at h;simp only[aZ,decide_eq_true_eq]at h;obtain⟨a,b,c,d⟩:=V8 hm h.1.1.1;rcases V9 hm h.2 ⟨a,c,d⟩ with rfl|h5
  ·simp
  ·simp only[dt];omega
def vH{m:ah}:∀ {l:List Ld} {q:Option Ld},er m q l=true->∀ x∈l,jl m x.cls x.opt=true/\1<=x.wt/\x.wt<=1000
 |[],_,_,c,hc=>by simp at hc
 |x::r,q,h,c,hc=>by
  rw[er.eq_def]at h;simp only[aZ,decide_eq_true_eq]at h;rcases bj.1 hc with rfl|hc
  ·exact⟨h.1.1.1,h.1.1.2⟩
  ·exact vH h.2 c hc
def Ku{most bX sum:Int}(h:bM bX):bM (kQ most bX sum):=by
 unfold kQ bM at *;split
 ·omega
 ·have:0<=(sum-most)*bX:=rZ Ix h.1;omega
def Wa{R:Int}:∀ {l:List (Int×Int)} {out:List Int},ln R out->(∀ c∈l,jk c.2=true)->ln R (By l out)
 |[],_,h,_=>h
 |c::r,out,h,hc=>by rw[By];exact Wa (h.add (uz (hc c Iy))) λx hx=>hc x (by simp[hx])
structure PM(m:ah)(plan:List Int):Prop where
 len:plan.length=m.cls.length
 get:∀ j,j<plan.length->plan.getD j 0 = -1\/jl m (j:Nat) (plan.getD j 0)=true
def qA{m:ah}{p:Pr}(h:gB m p=true):(0<=p.dL/\p.dL<m.rules)/\0<=p.fst/\p.fst<p.snd/\p.snd<m.cls.length/\(p.ax.length:Int)=(m.cls.getD p.fst.toNat default).length*(m.cls.getD p.snd.toNat default).length:=by
 unfold gB jA at h;simp only[aZ,decide_eq_true_eq]at h;exact⟨h.1.1,h.1.2⟩
def zN{x y a b:Int}(hx:0<=x/\x<a)(hy:0<=y/\y<b)(ha:a<=24)(hb:b<=24):0<=x*b/\x*b<=576/\x*b+y<a*b:=by
 have h1:0<=x*b:=rZ hx.1 Ix;have h2:x*b<=(a-1)*b:=Int.mul_le_mul_of_nonneg_right Ix Ix;have h3:(a-1)*b=a*b-b:=by rw[Int.sub_mul,Int.one_mul]
 have h4:a*b<=24*24:=Int.mul_le_mul ha hb Ix Ix;omega
def sY{m:ah}{c:Ct}(h:iV m c=true):(0<=c.dL/\c.dL<m.rules)/\(0<=c.most/\c.most<=1048576)/\jk c.bX=true/\er m none c.aY=true:=by
 unfold iV jA at h;simp only[aZ,decide_eq_true_eq]at h;exact⟨h.1.1.1,h.1.1.2,h.1.2,h.2⟩
def Kv{m:ah}{p:Pr}(hp:gB m p=true)(x y:Int):bM (zM m p x y):=by
 unfold zM;rcases dE (x*(m.cls.getD p.snd.toNat default).length+y).toNat p.ax.length with h|h
 ·unfold gB at hp;simp only[aZ,kH,List.any_eq_false]at hp;have:=hp.2 _ (aG (d:=0) h);unfold oB at this;simp only[aZ,decide_eq_true_eq,kH,not_and,Bool.not_eq_false]at this;generalize p.ax.getD (x*(m.cls.getD p.snd.toNat default).length+y).toNat 0=n at *;by_cases h0:n=0
  ·subst h0;unfold bM;decide
  ·exact uz (this h0)
 ·rw[aB,gj h];unfold bM;decide
def Gz(left:List (List Int))(f:Nat)(xs:List Int)(i:Nat)(seen:List Bool)(owner:List Int):Bool×List Bool×List Int :=
  match xs with
  |[]=>(false,seen,owner)
  |x::r =>
    if seen.getD x.toNat false=true then Gz left f r i seen owner
    else if owner.getD x.toNat 0<0 then(true,seen.set x.toNat true,owner.set x.toNat i)
    else match f with
      |0=>(false,seen.set x.toNat true,owner)
      |f+1 =>
        let q:=Gz left f (left.getD (owner.getD x.toNat 0).toNat []) (owner.getD x.toNat 0).toNat (seen.set x.toNat true) owner
        if q.1=true then(true,q.2.1,q.2.2.set x.toNat i) else Gz left (f+1) r i q.2.1 q.2.2
 termination_by (f,xs.length)
def yp(seen:List Bool):Nat:=seen.count false
def aft(seen:List Bool)(n:Nat)(h:n<seen.length)(hf:seen.getD n false=false):yp (seen.set n true)+1=yp seen:=by
 unfold yp;rw[List.count_set h];have:seen[n]=false:=by simpa [h] using hf
 have h1:0<seen.count false:=List.count_pos_iff.2 (by rw[<- this];exact tK h);simp[this];omega
def w8(n:Nat)(R:Nat)(owner:List Int):Prop:=owner.length=R/\∀ o∈owner,-1<=o/\o<n
def zO(R:Nat)(left:List (List Int)):Prop:=left.length<1000000/\∀ l∈left,l.length<1000000/\∀ x∈l,0<=x/\x<R
def w8.set{n R:Nat}{owner:List Int}(h:w8 n R owner){x i:Nat}(hi:i<n):w8 n R (owner.set x i) :=
 ⟨by simpa using h.1,λo ho=>by
  rcases qU ho with h'|h'
  ·exact h.2 o h'
  ·subst h';omega⟩
def w8.get{n R:Nat}{owner:List Int}(h:w8 n R owner){x:Nat}(hx:x<R): -1<=owner.getD x 0/\owner.getD x 0<n:=by
 have hl:x<owner.length:=by rw[h.1];exact hx
 rw[aB,bT hl];exact h.2 _ (tK hl)
def zO.get{R:Nat}{left:List (List Int)}(h:zO R left)(i:Nat):(left.getD i []).length<1000000/\∀ x∈left.getD i [],0<=x/\x<R:=by
 rcases dE i left.length with hi|hi
 ·rw[aB,bT hi];exact h.2 _ (tK hi)
 ·rw[aB,gj hi];simp
def Kw(left:List (List Int))(R:Nat)(zP:Int):Nat->Nat->Nat->List Int->Nat
 |0,_,n,_=>n
 |c+1,i,n,owner =>
  if(i:Int)=zP then Kw left R zP c (i+1) n owner
  else
   let q:=Gz left R (left.getD i []) i (aJ R false) owner
   Kw left R zP c (i+1) (if q.1=true then n+1 else n) q.2.2
def size(left:List (List Int))(R:Nat)(zP:Int):Nat:=Kw left R zP left.length 0 0 (aJ R (-1))
def afu(R:Nat):yp (aJ R false)=R:=by simp[yp]
def w8.rep(n R:Nat):w8 n R (aJ R (-1)):=⟨Iy,λo ho=>by
 have:=AM ho;subst this;omega⟩
def rB(left:List (List Int))(f:Nat)(xs:List Int)(i:Nat)(seen:List Bool)(owner number:List Int):Bool×List Bool×List Int×List Int :=
  match xs with
  |[]=>(false,seen,owner,number)
  |x::r =>
    if seen.getD x.toNat false=true then rB left f r i seen owner number
    else if owner.getD x.toNat 0<0 then(true,seen.set x.toNat true,owner.set x.toNat i,number.set i x)
    else match f with
      |0=>(false,seen.set x.toNat true,owner,number)
      |f+1 =>
        let q:=rB left f (left.getD (owner.getD x.toNat 0).toNat []) (owner.getD x.toNat 0).toNat (seen.set x.toNat true) owner number
        if q.1=true then(true,q.2.1,q.2.2.1.set x.toNat i,q.2.2.2.set i x) else rB left (f+1) r i q.2.1 q.2.2.1 q.2.2.2
 termination_by (f,xs.length)
end T

