import Derived.Test.YtfoopmojjjpapaaGreatX07
set_option linter.all false
set_option maxHeartbeats 0
set_option maxRecDepth 20000
open Int renaming tmod_eq_emod_of_nonneg→QT,mul_nonneg→sY,mul_le_mul_of_nonneg_right→Hf,mul_le_mul→qG,le_refl→nD
open List renaming getD_eq_getElem?_getD→ay,getElem?_eq_getElem→bx,getElem_mem→tW,replicate→aK,getElem?_eq_none→dN,length_set→bJ,mem_or_eq_of_mem_set→sW,eq_of_mem_replicate→CN,any_eq_true→qH,mem_cons→bu,length_cons→du,length_nil→ln,any_eq_false→AT,nil_append→eJ,cons_append→dw,mem_append→cG,mem_singleton→cS
open Nat renaming lt_or_ge→dT
open Bool renaming and_eq_true→bc,not_eq_true'→kq
open Option renaming some→cH
open Go Go.Am
namespace T
def Rc:=aaL @cF @gJ @Ms @Tq @Mt @Mu @oz
def cY(x:Int):Prop:=-9223372036854775808<=x/\x<=9223372036854775807
def xH(n m:Int):Int:=if m<1 then 0 else n%m
def U2(n m:Int)(hm:0<m):0<=xH n m/\xH n m<m:=by
 unfold xH;rw[if_neg Ey];exact⟨Int.emod_nonneg _ Ey,Int.emod_lt_of_pos _ Ey⟩
def Nl(n m:Int)(hm:0<m):(n.tmod m<0->n%m=n.tmod m+m)/\(0<=n.tmod m->n%m=n.tmod m)/\-m<n.tmod m/\n.tmod m<m:=by
 have h1:=Int.emod_nonneg n (show m≠0 by omega);have h2:=Int.emod_lt_of_pos n hm;rcases Int.lt_or_le n 0 with hn|hn
 ·have h3:n.tmod m = -((-n)%m):=by
   have:=Int.neg_tmod (a:=-n) (b:=m);rw[Int.neg_neg]at this;rw[this,QT Ey]
  have h4:=Int.emod_nonneg (-n) (show m≠0 by omega);have h5:=Int.emod_lt_of_pos (-n) hm;have h6:=Int.mul_ediv_add_emod n m;have h7:=Int.mul_ediv_add_emod (-n) m;have key:(n%m=0/\(-n)%m=0)\/n%m=m-(-n)%m:=by
   by_cases hz:(-n)%m=0
   ·left;have hd:m ∣ -n:=Int.dvd_of_emod_eq_zero hz;have vQ:m ∣ n:=(Int.dvd_neg).1 hd;exact⟨Int.emod_eq_zero_of_dvd vQ,hz⟩
   ·right;have:n=m*(-((-n)/m)-1)+(m-(-n)%m):=by
     have : -n=m*((-n)/m)+(-n)%m:=h7.symm;rw[Int.mul_sub,Int.mul_neg];omega
    rw[this,Int.mul_add_emod_self_left];rw[<- this];exact Int.emod_eq_of_lt Ey Ey
  rw[h3];refine⟨?_,?_,?_,?_⟩<;>omega
 ·rw[QT hn];refine⟨?_,?_,?_,?_⟩<;>omega
def ek(L:List Int)(DD:Nat)(n:Int):Int:=if DD >= L.length then 0 else xH (L.getD DD 0) n
def cQ(L:List Int)(DD:Nat):Nat:=if DD >= L.length then DD else DD+1
def fJ{L:List Int}{k:Nat}(h:k<=L.length):cQ L k<=L.length:=by unfold cQ;split<;>omega
def kh{L:List Int}{k:Nat}{n:Int}(h:0<n):0<=ek L k n/\ek L k n<n:=by
 unfold ek;split
 ·omega
 ·exact U2 _ _ h
def BE(L:List Int)(k:Nat)(n:Int):Bool:=decide (ek L k n=n-1)
def aF{α:Type}{l:List α}{i:Nat}{d:α}(h:i<l.length):l.getD i d∈l:=by
 rw[ay,bx h];exact tW h
def eM(a b:Int):Int:=min (a+b) 1099511627776
def jV(n:Int):Bool:=decide ((1<=n/\n<=1048576)\/n=1099511627776)
def ki(R n:Int):Bool:=decide (0<=n/\n<R)
def iD(m:ah)(c o:Int):Bool:=decide (0<=c/\c<m.cls.length/\0<=o/\o<(m.cls.getD c.toNat default).length)
def kX(a b:Int):Int:=if a<b then -1 else if b<a then 1 else 0
def sq:List Int->Int
 |[]=>0
 |x::r=>if x≠0 then x else sq r
def l7(most cA sum:Int):Int:=if sum<=most then 0 else min ((sum-most)*cA) 1099511627776
def Dy(n c:Int):Int:=if n<=0 then 0 else if 1099511627776<=c then 1099511627776 else min (n*c) 1099511627776
def qX(L:List Int)(k:Nat):Int:=if ek L k 6<3 then 0 else if ek L k 6=3 then 1099511627776 else 1+ek L (cQ L k) 20
def xK(L:List Int)(k:Nat):Nat:=if ek L k 6<=3 then cQ L k else cQ L (cQ L k)
def ss{α:Type}[Inhabited α](l:List α)(k:Nat):Option α:=if k=0 then none else some (l.getD (k-1) default)
def eT(R:Int):Option (Int×Int)->List (Int×Int)->Bool
 |_,[]=>true
 |q,c::r=>(ki R c.1&&jV c.2&&(match q with|none=>true|some q=>decide (q.1<c.1)))&&eT R (some c) r
def oE(a b:Pr):Int:=sq [kX a.ej b.ej,kX a.fst b.fst,kX a.snd b.snd]
def p7(n:Int):Bool:=decide (n≠0)&&!jV n
def iC(m:ah)(p:Pr):Bool:=ki m.rules p.ej&&decide (0<=p.fst/\p.fst<p.snd/\p.snd<m.cls.length/\(p.aB.length:Int)=(m.cls.getD p.fst.toNat default).length*(m.cls.getD p.snd.toNat default).length)&&!p.aB.any p7
def gd(m:ah):Option Pr->List Pr->Bool
 |_,[]=>true
 |q,p::r=>(iC m p&&(match q with|none=>true|some q=>decide (oE q p<0)))&&gd m (some p) r
def wq(a b:Ld):Int:=sq [kX a.cls b.cls,kX a.opt b.opt]
def eZ(m:ah):Option Ld->List Ld->Bool
 |_,[]=>true
 |q,x::r=>(iD m x.cls x.opt&&decide (1<=x.wt/\x.wt<=1000)&&(match q with|none=>true|some q=>decide (wq q x<0)))&&eZ m (some x) r
def jW(m:ah)(c:Ct):Bool:=ki m.rules c.ej&&decide (0<=c.most/\c.most<=1048576)&&jV c.cA&&eZ m none c.bd
def uT(m:ah):Bool:=decide (24<m.cls.length\/m.cls.any (λl=>decide (24<l.length))=true\/4000<m.ae.length\/800<m.aE.length\/m.rules<0\/56<m.rules)
def gv(m:ah):Int:=if uT m=true then 2 else if(m.cls.any λl=>l.any λo=>!eT m.rules none o.ch)=true then 1 else if gd m none m.ae=false then 1 else if(m.aE.any λc=>!jW m c)=true then 1 else 0
def yN{α:Type}[Inhabited α](l:List α)(k:Nat):ss l (k+1)=some (l.getD k default):=by simp[ss]
def VL{R:Int}{l r:List (Int×Int)}{k:Nat}{c:Int×Int}:eT R (ss l k) (c::r)=((ki R c.1&&jV c.2&&(decide (k=0)||decide ((l.getD (k-1) default).1<c.1)))&&eT R (some c) r):=by
 by_cases h:k=0<;>simp[ss,h,eT]
def VN{m:ah}{l r:List Pr}{k:Nat}{p:Pr}:gd m (ss l k) (p::r)=((iC m p&&(decide (k=0)||decide (oE (l.getD (k-1) default) p<0)))&&gd m (some p) r):=by
 by_cases h:k=0<;>simp[ss,h,gd]
def VH{m:ah}{l r:List Ld}{k:Nat}{x:Ld}:eZ m (ss l k) (x::r)=((iD m x.cls x.opt&&decide (1<=x.wt/\x.wt<=1000)&&(decide (k=0)||decide (wq (l.getD (k-1) default) x<0)))&&eZ m (some x) r):=by
 by_cases h:k=0<;>simp[ss,h,eZ]
structure MB(m:ah):Prop where
 cls:m.cls.length<9223372036854775808
 opt:∀ l∈m.cls,l.length<9223372036854775808
 ch:∀ l∈m.cls,∀ o∈l,o.ch.length<9223372036854775808
 ae:m.ae.length<9223372036854775808
 aB:∀ p∈m.ae,p.aB.length<9223372036854775808
 aE:m.aE.length<9223372036854775808
 mI:∀ c∈m.aE,c.bd.length<9223372036854775808
def ja(out:List Int)(r c:Int):List Int:=out.set r.toNat (eM (out.getD r.toNat 0) c)
def DE:List (Int×Int)->List Int->List Int
 |[],out=>out
 |c::r,out=>DE r (ja out c.1 c.2)
def DF(m:ah):Nat->List Int->List Int->List Int
 |_,[],out=>out
 |i,o::r,out=>DF m (i+1) r (if o<0 then out else DE ((m.cls.getD i default).getD o.toNat default).ch out)
def yR(m:ah)(p:Pr)(x y:Int):Int:=p.aB.getD (x*(m.cls.getD p.snd.toNat default).length+y).toNat 0
def DG(m:ah)(plan:List Int):List Pr->List Int->List Int
 |[],out=>out
 |p::r,out=>DG m plan r (if 0<=plan.getD p.fst.toNat 0/\0<=plan.getD p.snd.toNat 0 then ja out p.ej (yR m p (plan.getD p.fst.toNat 0) (plan.getD p.snd.toNat 0)) else out)
def Ae(plan:List Int):List Ld->Int->Int
 |[],n=>n
 |x::r,n=>Ae plan r (if plan.getD x.cls.toNat 0=x.opt then n+x.wt else n)
def DH(plan:List Int):List Ct->List Int->List Int
 |[],out=>out
 |c::r,out=>DH plan r (ja out c.ej (l7 c.most c.cA (Ae plan c.bd 0)))
def yS:List Int->Int->Int
 |[],n=>n
 |x::r,n=>yS r (eM n x)
def BN(m:ah)(plan:List Int):List Int:=DH plan m.aE (DG m plan m.ae (DF m 0 plan (aK m.rules.toNat 0)))
def bX(x:Int):Prop:=0<=x/\x<=1099511627776
def FC{a b:Int}(ha:bX a)(hb:bX b):bX (eM a b):=by unfold bX eM at *;omega
def wC{n:Int}(h:jV n=true):bX n:=by unfold jV at h;rw[decide_eq_true_eq]at h;unfold bX;omega
def mK(R:Int)(out:List Int):Prop:=(out.length:Int)=R/\∀ x∈out,bX x
def mK.get{R:Int}{out:List Int}(h:mK R out)(i:Nat):bX (out.getD i 0):=by
 rcases dT i out.length with hi|hi
 ·exact h.2 _ (aF hi)
 ·rw[ay,dN hi];unfold bX;decide
def mK.add{R:Int}{out:List Int}(h:mK R out){r c:Int}(hc:bX c):mK R (ja out r c) :=
 ⟨by rw[ja,bJ];exact h.1,λx hx=>by
  rcases sW hx with h'|h'
  ·exact h.2 x h'
  ·rw[h'];exact FC (h.get _) hc⟩
def mK.rep{R:Int}(hR:0<=R):mK R (aK R.toNat 0):=⟨Hj,λx hx=>by
 have:=CN hx;subst this;unfold bX;decide⟩
structure VM(m:ah):Prop where
 cls:m.cls.length<=24
 opt:∀ l∈m.cls,l.length<=24
 ae:m.ae.length<=4000
 aE:m.aE.length<=800
 wm:0<=m.rules/\m.rules<=56
 tA:∀ l∈m.cls,∀ o∈l,eT m.rules none o.ch=true
 pr:gd m none m.ae=true
 ct:∀ c∈m.aE,jW m c=true
def kf{m:ah}:gv m=0↔VM m:=by
 unfold gv;constructor
 ·intro h;split at h
  ·omega
  split at h
  ·omega
  split at h
  ·omega
  split at h
  ·omega
  rename_i h1 h2 h3 h4;have LN:uT m=false:=by simpa using h1
  rw[uT,decide_eq_false_iff_not]at LN;have h5:∀ l∈m.cls,l.length<=24:=λl hl=>by
   rcases dT 24 l.length with h|h
   ·exact absurd (.inr (.inl (qH.2 ⟨l,hl,by simpa using h⟩))) LN
   ·exact h
  refine⟨Ey,h5,Ey,Ey,Ey,λl hl o ho=>?_,by simpa using h3,λc hc=>?_⟩
  ·cases hh:eT m.rules none o.ch with
   |true=>rfl
   |false=>exact absurd (qH.2 ⟨l,hl,qH.2 ⟨o,ho,by rw[hh];rfl⟩⟩) h2
  ·cases hh:jW m c with
   |true=>rfl
   |false=>exact absurd (qH.2 ⟨c,hc,by rw[hh];rfl⟩) h4
 ·intro h;have h0:uT m=false:=by
   rw[uT,decide_eq_false_iff_not];rintro(h'|h'|h'|h'|h'|h')
   ·have:=h.cls;omega
   ·obtain⟨l,hl,wD⟩:=qH.1 h';have:=h.opt l hl;simp only[decide_eq_true_eq]at wD;omega
   ·have:=h.ae;omega
   ·have:=h.aE;omega
   ·have:=h.wm;omega
   ·have:=h.wm;omega
  rw[if_neg (by rw[h0];simp),if_neg,if_neg (by rw[h.pr];simp),if_neg]
  ·intro hh;obtain⟨c,hc,h'⟩:=qH.1 hh;rw[h.ct c hc]at h';simp at h'
  ·intro hh;obtain⟨l,hl,h'⟩:=qH.1 hh;obtain⟨o,ho,wD⟩:=qH.1 h';rw[h.tA l hl o ho]at wD;simp at wD
def IM{R:Int}:∀ {l:List (Int×Int)} {q:Option (Int×Int)},eT R q l=true->∀ c∈l,ki R c.1=true/\jV c.2=true
 |[],_,_,c,hc=>by simp at hc
 |x::r,q,h,c,hc=>by
  rw[eT.eq_def]at h;simp only[bc]at h;rcases bu.1 hc with rfl|hc
  ·exact h.1.1
  ·exact IM h.2 c hc
def Nx{R:Int}:∀ {l:List (Int×Int)} {q:Int×Int},eT R (some q) l=true->l=[]\/q.1+l.length<R
 |[],_,_=>.inl rfl
 |x::r,q,h=>by
  right;rw[eT]at h;simp only[bc,decide_eq_true_eq,ki]at h;rcases Nx h.2 with rfl|h5
  ·simp only[du,ln];omega
  ·simp only[du];omega
def ZV{R:Int}{l:List (Int×Int)}(hR:0<=R)(h:eT R none l=true):(l.length:Int)<=R:=by
 cases l with
 |nil=>simpa using hR
 |cons x r =>
  rw[eT]at h;simp only[bc,decide_eq_true_eq,ki]at h;rcases Nx h.2 with rfl|h5
  ·simp only[du,ln];omega
  ·simp only[du];omega
def kC{m:ah}:∀ {l:List Pr} {q:Option Pr},gd m q l=true->∀ p∈l,iC m p=true
 |[],_,_,c,hc=>by simp at hc
 |x::r,q,h,c,hc=>by
  rw[gd.eq_def]at h;simp only[bc]at h;rcases bu.1 hc with rfl|hc
  ·exact h.1.1
  ·exact kC h.2 c hc
def k0{m:ah}{c o:Int}:iD m c o=true↔0<=c/\c<m.cls.length/\0<=o/\o<(m.cls.getD c.toNat default).length:=by rw[iD,decide_eq_true_eq]
def ZW{m:ah}(h:VM m){c o:Int}(hb:iD m c o=true):0<=c/\c<24/\0<=o/\o<24:=by
 obtain⟨h1,h2,h3,h4⟩:=k0.1 hb;have:=h.cls;have:=h.opt _ (aF (l:=m.cls) (i:=c.toNat) (d:=default) Ey);omega
def FD(a b:Int):(a<b/\kX a b = -1)\/(a=b/\kX a b=0)\/(b<a/\kX a b=1):=by
 unfold kX;rcases Int.lt_trichotomy a b with h|h|h
 ·left;exact⟨h,by rw[if_pos h]⟩
 ·right;left;exact⟨h,by rw[if_neg Ey,if_neg Ey]⟩
 ·right;right;exact⟨h,by rw[if_neg Ey,if_pos h]⟩
def Iw{a b:Ld}:wq a b<0↔a.cls<b.cls\/(a.cls=b.cls/\a.opt<b.opt):=by
 unfold wq;rcases FD a.cls b.cls with⟨h,e⟩|⟨h,e⟩|⟨h,e⟩<;>rcases FD a.opt b.opt with⟨h',e'⟩|⟨h',e'⟩|⟨h',e'⟩<;>simp[sq,e,e']<;>omega
def M6{a b:Pr}:oE a b<0↔a.ej<b.ej\/(a.ej=b.ej/\(a.fst<b.fst\/(a.fst=b.fst/\a.snd<b.snd))):=by
 unfold oE;rcases FD a.ej b.ej with⟨h,e⟩|⟨h,e⟩|⟨h,e⟩<;>rcases FD a.fst b.fst with⟨h',e'⟩|⟨h',e'⟩|⟨h',e'⟩<;>rcases FD a.snd b.snd with⟨h2,e2⟩|⟨h2,e2⟩|⟨h2,e2⟩<;>simp[sq,e,e',e2]<;>omega
def ZX{m:ah}(hm:VM m):∀ {l:List Ld} {q:Ld},eZ m (some q) l=true->0<=q.cls/\0<=q.opt/\q.opt<24->l=[]\/q.cls*24+q.opt+l.length<576
 |[],_,_,_=>.inl rfl
 |x::r,q,h,hq=>by
  right;rw[eZ]at h;simp only[bc,decide_eq_true_eq]at h;obtain⟨⟨⟨h1,h2⟩,h3⟩,h4⟩:=h;obtain⟨a,b,c,d⟩:=ZW hm h1;have aX:q.cls*24+q.opt<x.cls*24+x.opt:=by
   rcases Iw.1 h3 with h|h<;>omega
  rcases ZX hm h4 ⟨a,c,d⟩ with rfl|h5
  ·simp only[du,ln];omega
  ·simp only[du];omega
def ZY{m:ah}(hm:VM m){l:List Ld}(h:eZ m none l=true):l.length<=576:=by
 cases l with
 |nil=>simp
 |cons x r =>
  rw[eZ]at h;simp only[bc,decide_eq_true_eq]at h;obtain⟨a,b,c,d⟩:=ZW hm h.1.1.1;rcases ZX hm h.2 ⟨a,c,d⟩ with rfl|h5
  ·simp
  ·simp only[du];omega
def xQ{m:ah}:∀ {l:List Ld} {q:Option Ld},eZ m q l=true->∀ x∈l,iD m x.cls x.opt=true/\1<=x.wt/\x.wt<=1000
 |[],_,_,c,hc=>by simp at hc
 |x::r,q,h,c,hc=>by
  rw[eZ.eq_def]at h;simp only[bc,decide_eq_true_eq]at h;rcases bu.1 hc with rfl|hc
  ·exact⟨h.1.1.1,h.1.1.2⟩
  ·exact xQ h.2 c hc
def Ny{most cA sum:Int}(h:bX cA):bX (l7 most cA sum):=by
 unfold l7 bX at *;split
 ·omega
 ·have:0<=(sum-most)*cA:=sY Ey h.1;omega
def ZZ{R:Int}:∀ {l:List (Int×Int)} {out:List Int},mK R out->(∀ c∈l,jV c.2=true)->mK R (DE l out)
 |[],_,h,_=>h
 |c::r,out,h,hc=>by rw[DE];exact ZZ (h.add (wC (hc c G9))) λx hx=>hc x (by simp[hx])
structure PM(m:ah)(plan:List Int):Prop where
 len:plan.length=m.cls.length
 get:∀ j,j<plan.length->plan.getD j 0 = -1\/iD m (j:Nat) (plan.getD j 0)=true
def rZ{m:ah}{p:Pr}(h:iC m p=true):(0<=p.ej/\p.ej<m.rules)/\0<=p.fst/\p.fst<p.snd/\p.snd<m.cls.length/\(p.aB.length:Int)=(m.cls.getD p.fst.toNat default).length*(m.cls.getD p.snd.toNat default).length:=by
 unfold iC ki at h;simp only[bc,decide_eq_true_eq]at h;exact⟨h.1.1,h.1.2⟩
def BO{x y a b:Int}(hx:0<=x/\x<a)(hy:0<=y/\y<b)(ha:a<=24)(hb:b<=24):0<=x*b/\x*b<=576/\x*b+y<a*b:=by
 have h1:0<=x*b:=sY hx.1 Ey;have h2:x*b<=(a-1)*b:=Hf Ey Ey;have h3:(a-1)*b=a*b-b:=by rw[Int.sub_mul,Int.one_mul]
 have h4:a*b<=24*24:=qG ha hb Ey Ey;omega
def u6{m:ah}{c:Ct}(h:jW m c=true):(0<=c.ej/\c.ej<m.rules)/\(0<=c.most/\c.most<=1048576)/\jV c.cA=true/\eZ m none c.bd=true:=by
 unfold jW ki at h;simp only[bc,decide_eq_true_eq]at h;exact⟨h.1.1.1,h.1.1.2,h.1.2,h.2⟩
def Nz{m:ah}{p:Pr}(hp:iC m p=true)(x y:Int):bX (yR m p x y):=by
 unfold yR;rcases dT (x*(m.cls.getD p.snd.toNat default).length+y).toNat p.aB.length with h|h
 ·unfold iC at hp;simp only[bc,kq,AT]at hp;have:=hp.2 _ (aF (d:=0) h);unfold p7 at this;simp only[bc,decide_eq_true_eq,kq,not_and,Bool.not_eq_false]at this;generalize p.aB.getD (x*(m.cls.getD p.snd.toNat default).length+y).toNat 0=n at *;by_cases h0:n=0
  ·subst h0;unfold bX;decide
  ·exact wC (this h0)
 ·rw[ay,dN h];unfold bX;decide
def VF{R:Int}{c:Int×Int}:∀ {l:List (Int×Int)} {q:Option (Int×Int)},eT R q l=true->ki R c.1=true->jV c.2=true->(∀ x∈l,x.1<c.1)->(∀ y,q=some y->y.1<c.1)->eT R q (l++[c])=true
 |[],q,_,h1,h2,_,h3=>by
  rw[eJ,eT.eq_def];cases q with
  |none=>simp[h1,h2,eT]
  |some y=>simp[h1,h2,eT,h3 y rfl]
 |x::r,q,h,h1,h2,h3,h4=>by
  rw[eT.eq_def]at h;simp only[bc]at h;rw[dw,eT.eq_def];simp only[bc];exact⟨h.1,VF h.2 h1 h2 (λy hy=>h3 y (by simp[hy])) (λy hy=>by simp only[cH.injEq]at hy;subst hy;exact h3 _ G9)⟩
def Z0{m:ah}{c:Pr}:∀ {l:List Pr} {q:Option Pr},gd m q l=true->iC m c=true->(∀ x∈l,oE x c<0)->(∀ y,q=some y->oE y c<0)->gd m q (l++[c])=true
 |[],q,_,h1,_,h3=>by
  rw[eJ,gd.eq_def];cases q with
  |none=>simp[h1,gd]
  |some y=>simp[h1,gd,h3 y rfl]
 |x::r,q,h,h1,h3,h4=>by
  rw[gd.eq_def]at h;simp only[bc]at h;rw[dw,gd.eq_def];simp only[bc];exact⟨h.1,Z0 h.2 h1 (λy hy=>h3 y (by simp[hy])) (λy hy=>by simp only[cH.injEq]at hy;subst hy;exact h3 _ G9)⟩
def Z1{m:ah}{c:Ld}:∀ {l:List Ld} {q:Option Ld},eZ m q l=true->iD m c.cls c.opt=true->(1<=c.wt/\c.wt<=1000)->(∀ x∈l,wq x c<0)->(∀ y,q=some y->wq y c<0)->eZ m q (l++[c])=true
 |[],q,_,h1,h2,_,h3=>by
  rw[eJ,eZ.eq_def];cases q with
  |none=>simp[h1,h2,eZ]
  |some y=>simp[h1,h2,eZ,h3 y rfl]
 |x::r,q,h,h1,h2,h3,h4=>by
  rw[eZ.eq_def]at h;simp only[bc]at h;rw[dw,eZ.eq_def];simp only[bc];exact⟨h.1,Z1 h.2 h1 h2 (λy hy=>h3 y (by simp[hy])) (λy hy=>by simp only[cH.injEq]at hy;subst hy;exact h3 _ G9)⟩
def VG{cls:List (List cP)}{R:Int}{a b:List Pr}{c d:List Ct}:∀ (l:List Pr) (q:Option Pr),gd ⟨cls,a,c,R⟩ q l=gd ⟨cls,b,d,R⟩ q l
 |[],_=>rfl
 |x::r,q=>by
  have:=VG (cls:=cls) (R:=R) (a:=a) (b:=b) (c:=c) (d:=d) r (some x);cases q<;>simp only[gd,this]<;>rfl
def Z2{cls:List (List cP)}{R:Int}{a b:List Pr}{c d:List Ct}:∀ (l:List Ld) (q:Option Ld),eZ ⟨cls,a,c,R⟩ q l=eZ ⟨cls,b,d,R⟩ q l
 |[],_=>rfl
 |x::r,q=>by
  have:=Z2 (cls:=cls) (R:=R) (a:=a) (b:=b) (c:=c) (d:=d) r (some x);cases q<;>simp only[eZ,this]<;>rfl
def ahQ{cls:List (List cP)}{R:Int}{a b:List Pr}{c d:List Ct}(x:Ct):jW ⟨cls,a,c,R⟩ x=jW ⟨cls,b,d,R⟩ x:=by
 unfold jW;rw[Z2 (a:=a) (b:=b) (c:=c) (d:=d)]
def MY(L:List Int)(k:Nat):0<=qX L k/\qX L k<=1099511627776/\(0<qX L k->jV (qX L k)=true):=by
 have h6:=kh (L:=L) (k:=k) (n:=6) Ey;have h20:=kh (L:=L) (k:=cQ L k) (n:=20) Ey;unfold qX;split
 ·exact⟨Ey,Ey,Ey⟩
 ·split
  ·exact⟨Ey,Ey,λ_=>Hg⟩
  ·refine⟨Ey,Ey,λ_=>?_⟩;rw[jV,decide_eq_true_eq];omega
def MZ{L:List Int}{k:Nat}(h:k<=L.length):xK L k<=L.length:=by
 unfold xK;split
 ·exact fJ h
 ·exact fJ (fJ h)
structure MM(m:ah)(qW options:Nat):Prop where
 vm:VM m
 qT:m.cls.length<=qW
 some:∀ l∈m.cls,1<=l.length/\l.length<=options
 wm:1<=m.rules/\m.rules<=4
 aE:m.aE.length<=2
 wk:∀ l∈m.cls,∀ o∈l,o.wk<=3
def VM.mb{m:ah}(h:VM m):MB m:=by
 refine⟨by have:=h.cls;omega,λl hl=>by have:=h.opt l hl;omega,λl hl o ho=>?_,by have:=h.ae;omega,λp hp=>?_,by have:=h.aE;omega,λc hc=>?_⟩
 ·have:=ZV h.wm.1 (h.tA l hl o ho);have:=h.wm;omega
 ·obtain⟨_,h1,h2,h3,h4⟩:=rZ (kC h.pr p hp);have a:=h.opt _ (aF (l:=m.cls) (i:=p.fst.toNat) (d:=default) Ey);have b:=h.opt _ (aF (l:=m.cls) (i:=p.snd.toNat) (d:=default) Ey);have:((m.cls.getD p.fst.toNat default).length:Int)*(m.cls.getD p.snd.toNat default).length<=24*24:=qG Ey Ey Ey Ey;omega
 ·have:=ZY h (u6 (h.ct c hc)).2.2.2;omega
def cZ(L:List Int)(k:Nat)(cls:List (List cP))(ae:List Pr)(aE:List Ct)(R:Int):List Ob :=
 [.var [.tree 1 (ints L),QM k],.var [.lit (.slice none 0 0),.lit (.slice none 0 0),.lit (.slice none 0 0),QM 0],
  .var [.ref 3 1 0 cls.length,.ref 4 4 0 ae.length,.ref 5 4 0 aE.length,QM R],.arr 1 (rowsOf aT cls),.arr 4 (rowsOf aI ae),.arr 4 (rowsOf dz aE)]
def VE(R:Int)(l:List cP):Prop:=∀ o∈l,eT R none o.ch=true/\o.wk<=3
def FE(p:Pr)(u i k:Nat):Prop:=p.ej<u\/(p.ej=u/\(p.fst<i\/(p.fst=i/\p.snd<k)))
structure yK(cls:List (List cP))(R:Int)(ae:List Pr)(u i k:Nat):Prop where
 ok:gd ⟨cls,[],[],R⟩ none ae=true
 lt:∀ p∈ae,FE p u i k
 len:ae.length<=576*u+24*i+k
def yK.mono{cls:List (List cP)}{R:Int}{ae:List Pr}{u i k u' i' k':Nat}(h:yK cls R ae u i k)(hl:u<u'\/(u=u'/\(i<i'\/(i=i'/\k<=k'))))(hs:576*u+24*i+k<=576*u'+24*i'+k'):yK cls R ae u' i' k' :=
 ⟨h.ok,λp hp=>by have:=h.lt p hp;unfold FE at *;omega,by have:=h.len;omega⟩
def yK.app{cls:List (List cP)}{R:Int}{ae:List Pr}{u i k:Nat}(h:yK cls R ae u i k){aB:List Int}(hp:iC ⟨cls,[],[],R⟩ ⟨i,k,u,aB⟩=true):yK cls R (ae++[⟨i,k,u,aB⟩]) u i (k+1):=by
 refine⟨Z0 h.ok hp (λx hx=>?_) G9,λp hp=>?_,by have:=h.len;simp;omega⟩
 ·have:=h.lt x hx;rw[M6];unfold FE at this;dsimp only;omega
 ·rcases cG.1 hp with hp|hp
  ·have:=h.lt p hp;unfold FE at *;omega
  ·simp only[cS]at hp;subst hp;unfold FE;dsimp only;omega
def ahM{cls:List (List cP)}{R:Int}{aB:List Int}{i k u:Nat}(hu:(u:Int)<R)(hik:i<k)(hk:k<cls.length)(ht:aB.length=(cls.getD i default).length*(cls.getD k default).length)(hc:∀ x∈aB,0<=x/\(0<x->jV x=true)):
  iC ⟨cls,[],[],R⟩ ⟨i,k,u,aB⟩=true:=by
 unfold iC ki;simp only[bc,decide_eq_true_eq,kq,Int.toNat_natCast,AT];refine⟨⟨⟨Ey,hu⟩,Ey,Ey,Ey,?_⟩,λx hx=>?_⟩
 ·rw[ht];simp
 ·unfold p7;have:=hc x hx;by_cases h0:x=0
  ·subst h0;decide
  ·rw[this.2 Ey];simp
structure z8(cls:List (List cP))(R:Int)(l:List Ld)(i k:Nat):Prop where
 ok:eZ ⟨cls,[],[],R⟩ none l=true
 lt:∀ x∈l,x.cls<i\/(x.cls=i/\x.opt<k)
 len:l.length<=24*i+k
def z8.mono{cls:List (List cP)}{R:Int}{l:List Ld}{i k i' k':Nat}(h:z8 cls R l i k)(hl:i<i'\/(i=i'/\k<=k'))(hs:24*i+k<=24*i'+k'):z8 cls R l i' k' :=
 ⟨h.ok,λp hp=>by have:=h.lt p hp;omega,by have:=h.len;omega⟩
def z8.app{cls:List (List cP)}{R:Int}{l:List Ld}{i k:Nat}(h:z8 cls R l i k){w:Int}(hi:i<cls.length)(hk:k<(cls.getD i default).length)(hw:1<=w/\w<=1000):z8 cls R (l++[⟨i,k,w⟩]) i (k+1):=by
 refine⟨Z1 h.ok (k0.2 ⟨Hi,Hi,Hi,by simp;exact hk⟩) hw (λx hx=>?_) G9,λp hp=>?_,by have:=h.len;simp;omega⟩
 ·have:=h.lt x hx;rw[Iw];dsimp only;omega
 ·rcases cG.1 hp with hp|hp
  ·have:=h.lt p hp;omega
  ·simp only[cS]at hp;subst hp;dsimp only;omega
def Z3:(default:cP).ch=[]:=rfl
def Z4{m:ah}(hm:VM m):∀ (plan:List Int) (i:Nat) (out:List Int),mK m.rules out->mK m.rules (DF m i plan out)
 |[],_,_,h=>h
 |o::r,i,out,h=>by
  rw[DF];refine Z4 hm r (i+1) _ ?_;split
  ·exact h
  ·refine ZZ h λc hc=>?_;rcases dT i m.cls.length with hi|hi
   ·have hl:=aF (d:=(default:List cP)) hi;generalize m.cls.getD i default=l at *;rcases dT o.toNat l.length with ho|ho
    ·exact(IM (hm.tA l hl _ (aF ho)) c hc).2
    ·rw[show l.getD o.toNat default=default by rw[ay,dN ho];rfl]at hc;exact absurd hc (by rw[Z3];simp)
   ·rw[show m.cls.getD i default=[] by rw[ay,dN hi];rfl]at hc;exact absurd hc (by rw[List.getD_nil,Z3];simp)
def Z5{m:ah}{plan:List Int}:∀ (l:List Pr) (out:List Int),(∀ p∈l,iC m p=true)->mK m.rules out->mK m.rules (DG m plan l out)
 |[],_,_,h=>h
 |p::r,out,hp,h=>by
  rw[DG];refine Z5 r _ (λq hq=>hp q (by simp[hq])) ?_;split
  ·exact h.add (Nz (hp p G9) _ _)
  ·exact h
def Z6{m:ah}{plan:List Int}:∀ (l:List Ct) (out:List Int),(∀ c∈l,jW m c=true)->mK m.rules out->mK m.rules (DH plan l out)
 |[],_,_,h=>h
 |c::r,out,hp,h=>by
  rw[DH];exact Z6 r _ (λq hq=>hp q (by simp[hq])) (h.add (Ny (wC (u6 (hp c G9)).2.2.1)))
def ai2{m:ah}(hm:VM m)(plan:List Int):mK m.rules (BN m plan) :=
 Z6 _ _ hm.ct (Z5 _ _ (kC hm.pr) (Z4 hm _ _ _ (mK.rep hm.wm.1)))
def k8:List Int->Int
 |[]=>0
 |x::r=>x+k8 r
def NA:∀ {l:List Int},(∀ x∈l,bX x)->0<=k8 l/\k8 l<=1099511627776*l.length
 |[],_=>by simp[k8]
 |x::r,h=>by
  have:=NA λy hy=>h y (List.mem_cons_of_mem x hy);have:=h x G9;unfold bX at this;simp only[k8,du];omega
def Z7:∀ {l:List Int} {n:Int},(∀ x∈l,bX x)->bX n->yS l n=min (n+k8 l) 1099511627776
 |[],n,_,hn=>by unfold bX at hn;simp only[yS,k8];omega
 |x::r,n,h,hn=>by
  have hx:=h x G9;have hr:∀ y∈r,bX y:=λy hy=>h y (by simp[hy]);rw[yS,Z7 hr (FC hn hx)];have:=NA hr;unfold bX at hx hn;simp only[eM,k8];omega
def NC:∀ {l:List Int},(∀ x∈l,bX x)->∀ x∈l,x<=k8 l
 |[],_,x,hx=>by simp at hx
 |y::r,h,x,hx=>by
  have hr:∀ z∈r,bX z:=λz hz=>h z (by simp[hz]);have:=(NA hr).1;have hy:=h y G9;unfold bX at hy;rcases bu.1 hx with rfl|hx
  ·simp only[k8];omega
  ·have:=NC hr x hx;simp only[k8];omega
def LE(a b:List Int):Prop:=a.length=b.length/\∀ i,a.getD i 0<=b.getD i 0
def LE.refl(a:List Int):LE a a:=⟨rfl,λ_=>nD _⟩
def Af(l:List Int)(n i:Nat)(x:Int):(l.set n x).getD i 0=if n=i/\i<l.length then x else l.getD i 0:=by
 rw[ay,List.getElem?_set,ay];by_cases h:n=i
 ·subst h;by_cases h2:n<l.length
  ·rw[if_pos rfl,if_pos h2,if_pos ⟨rfl,h2⟩];rfl
  ·rw[if_pos rfl,if_neg h2,if_neg (λh=>h2 h.2),dN Ey]
 ·rw[if_neg h,if_neg (λh'=>h h'.1)]
def LE.add{a b:List Int}(h:LE a b){r c d:Int}(hcd:c<=d):LE (ja a r c) (ja b r d):=by
 refine⟨by simp only[ja,bJ];exact h.1,λi=>?_⟩;rw[ja,ja,Af,Af,h.1];have:=h.2 i;have:=h.2 r.toNat;split
 ·unfold eM;omega
 ·exact h.2 i
def LE.up{R:Int}{a b:List Int}(h:LE a b)(hb:mK R b){r c:Int}(hc:0<=c):LE a (ja b r c):=by
 refine⟨by simp only[ja,bJ];exact h.1,λi=>?_⟩;rw[ja,Af];have h1:=h.2 i;have h2:=hb.get i;unfold bX at h2;split
 ·rename_i hh;rw[hh.1];unfold eM;omega
 ·exact h1
def Up(p q:List Int):Prop:=p.length=q.length/\∀ j,p.getD j 0=q.getD j 0\/p.getD j 0<0
def ai3{most cA s t:Int}(hp:0<=cA)(h:s<=t):l7 most cA s<=l7 most cA t:=by
 unfold l7;have h1:(s-most)*cA<=(t-most)*cA:=Hf Ey hp;split
 ·split
  ·exact nD _
  ·have:0<=(t-most)*cA:=sY Ey hp;omega
 ·rw[if_neg Ey];omega
def Up.set{p:List Int}{c:Nat}(o:Int)(h:p.getD c 0 = -1):Up p (p.set c o):=by
 refine⟨G9,λj=>?_⟩;rw[Af];split
 ·rename_i hh;rw[<- hh.1,h];omega
 ·exact .inl rfl
def PM.set{m:ah}{p:List Int}(h:PM m p){c:Nat}{o:Int}(ho:o = -1\/iD m (c:Nat) o=true):PM m (p.set c o):=by
 refine⟨by rw[bJ];exact h.len,λj hj=>?_⟩;rw[bJ]at hj;rw[Af];split
 ·rename_i hh;rw[<- hh.1];exact ho
 ·exact h.get j hj
def IN(left:List (List Int))(f:Nat)(xs:List Int)(i:Nat)(seen:List Bool)(owner:List Int):Bool×List Bool×List Int :=
  match xs with
  |[]=>(false,seen,owner)
  |x::r =>
    if seen.getD x.toNat false=true then IN left f r i seen owner
    else if owner.getD x.toNat 0<0 then(true,seen.set x.toNat true,owner.set x.toNat i)
    else match f with
      |0=>(false,seen.set x.toNat true,owner)
      |f+1 =>
        let q:=IN left f (left.getD (owner.getD x.toNat 0).toNat []) (owner.getD x.toNat 0).toNat (seen.set x.toNat true) owner
        if q.1=true then(true,q.2.1,q.2.2.set x.toNat i) else IN left (f+1) r i q.2.1 q.2.2
 termination_by (f,xs.length)
def qh(seen:List Bool):Nat:=seen.count false
def ai4(seen:List Bool)(n:Nat)(h:n<seen.length)(hf:seen.getD n false=false):qh (seen.set n true)+1=qh seen:=by
 unfold qh;rw[List.count_set h];have:seen[n]=false:=by simpa [h] using hf
 have h1:0<seen.count false:=List.count_pos_iff.2 (by rw[<- this];exact tW h);simp[this];omega
def yT(n:Nat)(R:Nat)(owner:List Int):Prop:=owner.length=R/\∀ o∈owner,-1<=o/\o<n
def BQ(R:Nat)(left:List (List Int)):Prop:=left.length<1000000/\∀ l∈left,l.length<1000000/\∀ x∈l,0<=x/\x<R
def yT.set{n R:Nat}{owner:List Int}(h:yT n R owner){x i:Nat}(hi:i<n):yT n R (owner.set x i) :=
 ⟨by simpa using h.1,λo ho=>by
  rcases sW ho with h'|h'
  ·exact h.2 o h'
  ·subst h';omega⟩
def yT.get{n R:Nat}{owner:List Int}(h:yT n R owner){x:Nat}(hx:x<R): -1<=owner.getD x 0/\owner.getD x 0<n:=by
 have hl:x<owner.length:=by rw[h.1];exact hx
 rw[ay,bx hl];exact h.2 _ (tW hl)
def BQ.get{R:Nat}{left:List (List Int)}(h:BQ R left)(i:Nat):(left.getD i []).length<1000000/\∀ x∈left.getD i [],0<=x/\x<R:=by
 rcases dT i left.length with hi|hi
 ·rw[ay,bx hi];exact h.2 _ (tW hi)
 ·rw[ay,dN hi];simp
def ND(left:List (List Int))(R:Nat)(BS:Int):Nat->Nat->Nat->List Int->Nat
 |0,_,n,_=>n
 |c+1,i,n,owner =>
  if(i:Int)=BS then ND left R BS c (i+1) n owner
  else
   let q:=IN left R (left.getD i []) i (aK R false) owner
   ND left R BS c (i+1) (if q.1=true then n+1 else n) q.2.2
def size(left:List (List Int))(R:Nat)(BS:Int):Nat:=ND left R BS left.length 0 0 (aK R (-1))
def ai5(R:Nat):qh (aK R false)=R:=by simp[qh]
def yT.rep(n R:Nat):yT n R (aK R (-1)):=⟨G9,λo ho=>by
 have:=CN ho;subst this;omega⟩
def tE(left:List (List Int))(f:Nat)(xs:List Int)(i:Nat)(seen:List Bool)(owner number:List Int):Bool×List Bool×List Int×List Int :=
  match xs with
  |[]=>(false,seen,owner,number)
  |x::r =>
    if seen.getD x.toNat false=true then tE left f r i seen owner number
    else if owner.getD x.toNat 0<0 then(true,seen.set x.toNat true,owner.set x.toNat i,number.set i x)
    else match f with
      |0=>(false,seen.set x.toNat true,owner,number)
      |f+1 =>
        let q:=tE left f (left.getD (owner.getD x.toNat 0).toNat []) (owner.getD x.toNat 0).toNat (seen.set x.toNat true) owner number
        if q.1=true then(true,q.2.1,q.2.2.1.set x.toNat i,q.2.2.2.set i x) else tE left (f+1) r i q.2.1 q.2.2.1 q.2.2.2
 termination_by (f,xs.length)
end T

