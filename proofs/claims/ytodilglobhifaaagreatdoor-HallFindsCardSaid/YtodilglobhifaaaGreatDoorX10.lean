import Derived.Test.YtodilglobhifaaaGreatDoorX07
set_option linter.all false
set_option maxHeartbeats 0
set_option maxRecDepth 20000
open List renaming getD_eq_getElem?_getD→aw,getElem?_eq_getElem→bc,getElem_mem→nM,replicate→ax,getElem?_eq_none→iF,length_set→bt,mem_or_eq_of_mem_set→qW,eq_of_mem_replicate→ui,any_eq_true→nQ,mem_cons→cD,length_cons→cK,length_nil→g8,replicate_succ→xT,set_append_right→uj,set_cons_zero→uc,take_add_one→Hn,mem_append→bj,mem_singleton→bm,getElem?_set→cj,getElem?_replicate→Hl,range→bD,getD_cons_zero→jm,getD_cons_succ→jK,getElem?_map→dm,length_map→iS,ext_getElem→Ax,drop_zero→Av,nil_append→dT,mem_range→kA
open Nat renaming lt_or_ge→dD,strongRecOn→xO,le_refl→aM,sub_self→kB,zero_le→aN
open Bool renaming and_eq_true→bd,not_eq_true'→g7,true_and→iD,not_eq_false'→Hi
open Int renaming mul_nonneg→AD,toNat_natCast→dz,toNat_of_nonneg→oR
open Option renaming getD_some→dK
open Go Go.Am
namespace T
def Rc:=aau @cH @ia @nc @Ji @Jj @AZ @we
def df(x:Int):Prop:=-9223372036854775808<=x/\x<=9223372036854775807
def td(n m:Int):Int:=if m<1 then 0 else n%m
def UM(n m:Int)(hm:0<m):0<=td n m/\td n m<m:=by
 unfold td;rw[if_neg Ay];exact⟨Int.emod_nonneg _ Ay,Int.emod_lt_of_pos _ Ay⟩
def EX(n m:Int)(hm:0<m):(n.tmod m<0->n%m=n.tmod m+m)/\(0<=n.tmod m->n%m=n.tmod m)/\-m<n.tmod m/\n.tmod m<m:=by
 have h1:=Int.emod_nonneg n (show m≠0 by omega);have h2:=Int.emod_lt_of_pos n hm;rcases Int.lt_or_le n 0 with hn|hn
 ·have h3:n.tmod m = -((-n)%m):=by
   have:=Int.neg_tmod (a:=-n) (b:=m);rw[Int.neg_neg]at this;rw[this,Int.tmod_eq_emod_of_nonneg Ay]
  have h4:=Int.emod_nonneg (-n) (show m≠0 by omega);have h5:=Int.emod_lt_of_pos (-n) hm;have h6:=Int.mul_ediv_add_emod n m;have h7:=Int.mul_ediv_add_emod (-n) m;have key:(n%m=0/\(-n)%m=0)\/n%m=m-(-n)%m:=by
   by_cases hz:(-n)%m=0
   ·left;have hd:m ∣ -n:=Int.dvd_of_emod_eq_zero hz;have lG:m ∣ n:=(Int.dvd_neg).1 hd;exact⟨Int.emod_eq_zero_of_dvd lG,hz⟩
   ·right;have:n=m*(-((-n)/m)-1)+(m-(-n)%m):=by
     have : -n=m*((-n)/m)+(-n)%m:=h7.symm;rw[Int.mul_sub,Int.mul_neg];omega
    rw[this,Int.mul_add_emod_self_left];rw[<- this];exact Int.emod_eq_of_lt Ay Ay
  rw[h3];refine⟨?_,?_,?_,?_⟩<;>omega
 ·rw[Int.tmod_eq_emod_of_nonneg hn];refine⟨?_,?_,?_,?_⟩<;>omega
def cJ(L:List Int)(at':Nat)(n:Int):Int:=if at' >= L.length then 0 else td (L.getD at' 0) n
def bH(L:List Int)(at':Nat):Nat:=if at' >= L.length then at' else at'+1
def dg{L:List Int}{k:Nat}(h:k<=L.length):bH L k<=L.length:=by unfold bH;split<;>omega
def iA{L:List Int}{k:Nat}{n:Int}(h:0<n):0<=cJ L k n/\cJ L k n<n:=by
 unfold cJ;split
 ·omega
 ·exact UM _ _ h
def oA(L:List Int)(k:Nat)(n:Int):Bool:=decide (cJ L k n=n-1)
def aG{α:Type}{l:List α}{i:Nat}{d:α}(h:i<l.length):l.getD i d∈l:=by
 rw[aw,bc h];exact nM h
def gX(a b:Int):Int:=min (a+b) 1099511627776
def fw(n:Int):Bool:=decide ((1<=n/\n<=1048576)\/n=1099511627776)
def gY(R n:Int):Bool:=decide (0<=n/\n<R)
def iN(m:ah)(c o:Int):Bool:=decide (0<=c/\c<m.cls.length/\0<=o/\o<(m.cls.getD c.toNat default).length)
def gk(a b:Int):Int:=if a<b then -1 else if b<a then 1 else 0
def l4:List Int->Int
 |[]=>0
 |x::r=>if x≠0 then x else l4 r
def u5(most da sum:Int):Int:=if sum<=most then 0 else min ((sum-most)*da) 1099511627776
def l5(L:List Int)(k:Nat):Int:=if cJ L k 6<3 then 0 else if cJ L k 6=3 then 1099511627776 else 1+cJ L (bH L k) 20
def qv(L:List Int)(k:Nat):Nat:=if cJ L k 6<=3 then bH L k else bH L (bH L k)
def mK{α:Type}[Inhabited α](l:List α)(k:Nat):Option α:=if k=0 then none else some (l.getD (k-1) default)
def dh(R:Int):Option (Int×Int)->List (Int×Int)->Bool
 |_,[]=>true
 |q,c::r=>(gY R c.1&&fw c.2&&(match q with|none=>true|some q=>decide (q.1<c.1)))&&dh R (some c) r
def oB(a b:Pr):Int:=l4 [gk a.cX b.cX,gk a.fst b.fst,gk a.snd b.snd]
def l6(n:Int):Bool:=decide (n≠0)&&!fw n
def gm(m:ah)(p:Pr):Bool:=gY m.rules p.cX&&decide (0<=p.fst/\p.fst<p.snd/\p.snd<m.cls.length/\(p.bg.length:Int)=(m.cls.getD p.fst.toNat default).length*(m.cls.getD p.snd.toNat default).length)&&!p.bg.any l6
def gZ(m:ah):Option Pr->List Pr->Bool
 |_,[]=>true
 |q,p::r=>(gm m p&&(match q with|none=>true|some q=>decide (oB q p<0)))&&gZ m (some p) r
def pz(a b:Ld):Int:=l4 [gk a.cls b.cls,gk a.opt b.opt]
def gn(m:ah):Option Ld->List Ld->Bool
 |_,[]=>true
 |q,x::r=>(iN m x.cls x.opt&&decide (1<=x.wt/\x.wt<=1000)&&(match q with|none=>true|some q=>decide (pz q x<0)))&&gn m (some x) r
def fE(m:ah)(c:Ct):Bool:=gY m.rules c.cX&&decide (0<=c.most/\c.most<=1048576)&&fw c.da&&gn m none c.fH
def oC(m:ah):Bool:=decide (24<m.cls.length\/m.cls.any (λl=>decide (24<l.length))=true\/4000<m.ae.length\/800<m.aL.length\/m.rules<0\/56<m.rules)
def l7(m:ah):Int:=if oC m=true then 2 else if(m.cls.any λl=>l.any λo=>!dh m.rules none o.ch)=true then 1 else if gZ m none m.ae=false then 1 else if(m.aL.any λc=>!fE m c)=true then 1 else 0
def rF{α:Type}[Inhabited α](l:List α)(k:Nat):mK l (k+1)=some (l.getD k default):=by simp[mK]
def NX{R:Int}{l r:List (Int×Int)}{k:Nat}{c:Int×Int}:dh R (mK l k) (c::r)=((gY R c.1&&fw c.2&&(decide (k=0)||decide ((l.getD (k-1) default).1<c.1)))&&dh R (some c) r):=by
 by_cases h:k=0<;>simp[mK,h,dh]
def NY{m:ah}{l r:List Pr}{k:Nat}{p:Pr}:gZ m (mK l k) (p::r)=((gm m p&&(decide (k=0)||decide (oB (l.getD (k-1) default) p<0)))&&gZ m (some p) r):=by
 by_cases h:k=0<;>simp[mK,h,gZ]
def NZ{m:ah}{l r:List Ld}{k:Nat}{x:Ld}:gn m (mK l k) (x::r)=((iN m x.cls x.opt&&decide (1<=x.wt/\x.wt<=1000)&&(decide (k=0)||decide (pz (l.getD (k-1) default) x<0)))&&gn m (some x) r):=by
 by_cases h:k=0<;>simp[mK,h,gn]
structure MB(m:ah):Prop where
 cls:m.cls.length<9223372036854775808
 opt:∀ l∈m.cls,l.length<9223372036854775808
 ch:∀ l∈m.cls,∀ o∈l,o.ch.length<9223372036854775808
 ae:m.ae.length<9223372036854775808
 bg:∀ p∈m.ae,p.bg.length<9223372036854775808
 aL:m.aL.length<9223372036854775808
 eE:∀ c∈m.aL,c.fH.length<9223372036854775808
def fA(out:List Int)(r c:Int):List Int:=out.set r.toNat (gX (out.getD r.toNat 0) c)
def rG:List (Int×Int)->List Int->List Int
 |[],out=>out
 |c::r,out=>rG r (fA out c.1 c.2)
def np(m:ah):Nat->List Int->List Int->List Int
 |_,[],out=>out
 |i,o::r,out=>np m (i+1) r (if o<0 then out else rG ((m.cls.getD i default).getD o.toNat default).ch out)
def nq(m:ah)(p:Pr)(x y:Int):Int:=p.bg.getD (x*(m.cls.getD p.snd.toNat default).length+y).toNat 0
def qw(m:ah)(plan:List Int):List Pr->List Int->List Int
 |[],out=>out
 |p::r,out=>qw m plan r (if 0<=plan.getD p.fst.toNat 0/\0<=plan.getD p.snd.toNat 0 then fA out p.cX (nq m p (plan.getD p.fst.toNat 0) (plan.getD p.snd.toNat 0)) else out)
def te(plan:List Int):List Ld->Int->Int
 |[],n=>n
 |x::r,n=>te plan r (if plan.getD x.cls.toNat 0=x.opt then n+x.wt else n)
def qy(plan:List Int):List Ct->List Int->List Int
 |[],out=>out
 |c::r,out=>qy plan r (fA out c.cX (u5 c.most c.da (te plan c.fH 0)))
def rH:List Int->Int->Int
 |[],n=>n
 |x::r,n=>rH r (gX n x)
def rI(m:ah)(plan:List Int):List Int:=qy plan m.aL (qw m plan m.ae (np m 0 plan (ax m.rules.toNat 0)))
def b9(x:Int):Prop:=0<=x/\x<=1099511627776
def yS{a b:Int}(ha:b9 a)(hb:b9 b):b9 (gX a b):=by unfold b9 gX at *;omega
def qz{n:Int}(h:fw n=true):b9 n:=by unfold fw at h;rw[decide_eq_true_eq]at h;unfold b9;omega
def gG(R:Int)(out:List Int):Prop:=(out.length:Int)=R/\∀ x∈out,b9 x
def gG.get{R:Int}{out:List Int}(h:gG R out)(i:Nat):b9 (out.getD i 0):=by
 rcases dD i out.length with hi|hi
 ·exact h.2 _ (aG hi)
 ·rw[aw,iF hi];unfold b9;decide
def gG.add{R:Int}{out:List Int}(h:gG R out){r c:Int}(hc:b9 c):gG R (fA out r c) :=
 ⟨by rw[fA,bt];exact h.1,λx hx=>by
  rcases qW hx with h'|h'
  ·exact h.2 x h'
  ·rw[h'];exact yS (h.get _) hc⟩
def gG.rep{R:Int}(hR:0<=R):gG R (ax R.toNat 0):=⟨aab,λx hx=>by
 have:=ui hx;subst this;unfold b9;decide⟩
structure VM(m:ah):Prop where
 cls:m.cls.length<=24
 opt:∀ l∈m.cls,l.length<=24
 ae:m.ae.length<=4000
 aL:m.aL.length<=800
 rJ:0<=m.rules/\m.rules<=56
 u6:∀ l∈m.cls,∀ o∈l,dh m.rules none o.ch=true
 pr:gZ m none m.ae=true
 ct:∀ c∈m.aL,fE m c=true
def yT{m:ah}:l7 m=0↔VM m:=by
 unfold l7;constructor
 ·intro h;split at h
  ·omega
  split at h
  ·omega
  split at h
  ·omega
  split at h
  ·omega
  rename_i h1 h2 h3 h4;have pe:oC m=false:=by simpa using h1
  rw[oC,decide_eq_false_iff_not]at pe;have h5:∀ l∈m.cls,l.length<=24:=λl hl=>by
   rcases dD 24 l.length with h|h
   ·exact absurd (.inr (.inl (nQ.2 ⟨l,hl,by simpa using h⟩))) pe
   ·exact h
  refine⟨Ay,h5,Ay,Ay,Ay,λl hl o ho=>?_,by simpa using h3,λc hc=>?_⟩
  ·cases hh:dh m.rules none o.ch with
   |true=>rfl
   |false=>exact absurd (nQ.2 ⟨l,hl,nQ.2 ⟨o,ho,by rw[hh];rfl⟩⟩) h2
  ·cases hh:fE m c with
   |true=>rfl
   |false=>exact absurd (nQ.2 ⟨c,hc,by rw[hh];rfl⟩) h4
 ·intro h;have h0:oC m=false:=by
   rw[oC,decide_eq_false_iff_not];rintro(h'|h'|h'|h'|h'|h')
   ·have:=h.cls;omega
   ·obtain⟨l,hl,kM⟩:=nQ.1 h';have:=h.opt l hl;simp only[decide_eq_true_eq]at kM;omega
   ·have:=h.ae;omega
   ·have:=h.aL;omega
   ·have:=h.rJ;omega
   ·have:=h.rJ;omega
  rw[if_neg (by rw[h0];simp),if_neg,if_neg (by rw[h.pr];simp),if_neg]
  ·intro hh;obtain⟨c,hc,h'⟩:=nQ.1 hh;rw[h.ct c hc]at h';simp at h'
  ·intro hh;obtain⟨l,hl,h'⟩:=nQ.1 hh;obtain⟨o,ho,kM⟩:=nQ.1 h';rw[h.u6 l hl o ho]at kM;simp at kM
def yU{R:Int}:∀ {l:List (Int×Int)} {q:Option (Int×Int)},dh R q l=true->∀ c∈l,gY R c.1=true/\fw c.2=true
 |[],_,_,c,hc=>by simp at hc
 |x::r,q,h,c,hc=>by
  rw[dh.eq_def]at h;simp only[bd]at h;rcases cD.1 hc with rfl|hc
  ·exact h.1.1
  ·exact yU h.2 c hc
def N0{R:Int}:∀ {l:List (Int×Int)} {q:Int×Int},dh R (some q) l=true->l=[]\/q.1+l.length<R
 |[],_,_=>.inl rfl
 |x::r,q,h=>by
  right;rw[dh]at h;simp only[bd,decide_eq_true_eq,gY]at h;rcases N0 h.2 with rfl|h5
  ·simp only[cK,g8];omega
  ·simp only[cK];omega
def UN{R:Int}{l:List (Int×Int)}(hR:0<=R)(h:dh R none l=true):(l.length:Int)<=R:=by
 cases l with
 |nil=>simpa using hR
 |cons x r =>
  rw[dh]at h;simp only[bd,decide_eq_true_eq,gY]at h;rcases N0 h.2 with rfl|h5
  ·simp only[cK,g8];omega
  ·simp only[cK];omega
def nr{m:ah}:∀ {l:List Pr} {q:Option Pr},gZ m q l=true->∀ p∈l,gm m p=true
 |[],_,_,c,hc=>by simp at hc
 |x::r,q,h,c,hc=>by
  rw[gZ.eq_def]at h;simp only[bd]at h;rcases cD.1 hc with rfl|hc
  ·exact h.1.1
  ·exact nr h.2 c hc
def qA{m:ah}{c o:Int}:iN m c o=true↔0<=c/\c<m.cls.length/\0<=o/\o<(m.cls.getD c.toNat default).length:=by rw[iN,decide_eq_true_eq]
def N1{m:ah}(h:VM m){c o:Int}(hb:iN m c o=true):0<=c/\c<24/\0<=o/\o<24:=by
 obtain⟨h1,h2,h3,h4⟩:=qA.1 hb;have:=h.cls;have:=h.opt _ (aG (l:=m.cls) (i:=c.toNat) (d:=default) Ay);omega
def yV(a b:Int):(a<b/\gk a b = -1)\/(a=b/\gk a b=0)\/(b<a/\gk a b=1):=by
 unfold gk;rcases Int.lt_trichotomy a b with h|h|h
 ·left;exact⟨h,by rw[if_pos h]⟩
 ·right;left;exact⟨h,by rw[if_neg Ay,if_neg Ay]⟩
 ·right;right;exact⟨h,by rw[if_neg Ay,if_pos h]⟩
def EY{a b:Ld}:pz a b<0↔a.cls<b.cls\/(a.cls=b.cls/\a.opt<b.opt):=by
 unfold pz;rcases yV a.cls b.cls with⟨h,e⟩|⟨h,e⟩|⟨h,e⟩<;>rcases yV a.opt b.opt with⟨h',e'⟩|⟨h',e'⟩|⟨h',e'⟩<;>simp[l4,e,e']<;>omega
def N2{a b:Pr}:oB a b<0↔a.cX<b.cX\/(a.cX=b.cX/\(a.fst<b.fst\/(a.fst=b.fst/\a.snd<b.snd))):=by
 unfold oB;rcases yV a.cX b.cX with⟨h,e⟩|⟨h,e⟩|⟨h,e⟩<;>rcases yV a.fst b.fst with⟨h',e'⟩|⟨h',e'⟩|⟨h',e'⟩<;>rcases yV a.snd b.snd with⟨h2,e2⟩|⟨h2,e2⟩|⟨h2,e2⟩<;>simp[l4,e,e',e2]<;>omega
def N3{m:ah}(hm:VM m):∀ {l:List Ld} {q:Ld},gn m (some q) l=true->0<=q.cls/\0<=q.opt/\q.opt<24->l=[]\/q.cls*24+q.opt+l.length<576
 |[],_,_,_=>.inl rfl
 |x::r,q,h,hq=>by
  right;rw[gn]at h;simp only[bd,decide_eq_true_eq]at h;obtain⟨⟨⟨h1,h2⟩,h3⟩,h4⟩:=h;obtain⟨a,b,c,d⟩:=N1 hm h1;have bw:q.cls*24+q.opt<x.cls*24+x.opt:=by
   rcases EY.1 h3 with h|h<;>omega
  rcases N3 hm h4 ⟨a,c,d⟩ with rfl|h5
  ·simp only[cK,g8];omega
  ·simp only[cK];omega
def UO{m:ah}(hm:VM m){l:List Ld}(h:gn m none l=true):l.length<=576:=by
 cases l with
 |nil=>simp
 |cons x r =>
  rw[gn]at h;simp only[bd,decide_eq_true_eq]at h;obtain⟨a,b,c,d⟩:=N1 hm h.1.1.1;rcases N3 hm h.2 ⟨a,c,d⟩ with rfl|h5
  ·simp
  ·simp only[cK];omega
def N4{m:ah}:∀ {l:List Ld} {q:Option Ld},gn m q l=true->∀ x∈l,iN m x.cls x.opt=true/\1<=x.wt/\x.wt<=1000
 |[],_,_,c,hc=>by simp at hc
 |x::r,q,h,c,hc=>by
  rw[gn.eq_def]at h;simp only[bd,decide_eq_true_eq]at h;rcases cD.1 hc with rfl|hc
  ·exact⟨h.1.1.1,h.1.1.2⟩
  ·exact N4 h.2 c hc
def EZ{most da sum:Int}(h:b9 da):b9 (u5 most da sum):=by
 unfold u5 b9 at *;split
 ·omega
 ·have:0<=(sum-most)*da:=AD Ay h.1;omega
def N5{R:Int}:∀ {l:List (Int×Int)} {out:List Int},gG R out->(∀ c∈l,fw c.2=true)->gG R (rG l out)
 |[],_,h,_=>h
 |c::r,out,h,hc=>by rw[rG];exact N5 (h.add (qz (hc c Dg))) λx hx=>hc x (by simp[hx])
structure PM(m:ah)(plan:List Int):Prop where
 len:plan.length=m.cls.length
 get:∀ j,j<plan.length->plan.getD j 0 = -1\/iN m (j:Nat) (plan.getD j 0)=true
def u7{m:ah}{p:Pr}(h:gm m p=true):(0<=p.cX/\p.cX<m.rules)/\0<=p.fst/\p.fst<p.snd/\p.snd<m.cls.length/\(p.bg.length:Int)=(m.cls.getD p.fst.toNat default).length*(m.cls.getD p.snd.toNat default).length:=by
 unfold gm gY at h;simp only[bd,decide_eq_true_eq]at h;exact⟨h.1.1,h.1.2⟩
def u9{x y a b:Int}(hx:0<=x/\x<a)(hy:0<=y/\y<b)(ha:a<=24)(hb:b<=24):0<=x*b/\x*b<=576/\x*b+y<a*b:=by
 have h1:0<=x*b:=AD hx.1 Ay;have h2:x*b<=(a-1)*b:=Int.mul_le_mul_of_nonneg_right Ay Ay;have h3:(a-1)*b=a*b-b:=by rw[Int.sub_mul,Int.one_mul]
 have h4:a*b<=24*24:=Int.mul_le_mul ha hb Ay Ay;omega
def yW{m:ah}{c:Ct}(h:fE m c=true):(0<=c.cX/\c.cX<m.rules)/\(0<=c.most/\c.most<=1048576)/\fw c.da=true/\gn m none c.fH=true:=by
 unfold fE gY at h;simp only[bd,decide_eq_true_eq]at h;exact⟨h.1.1.1,h.1.1.2,h.1.2,h.2⟩
def BR{m:ah}{p:Pr}(hp:gm m p=true)(x y:Int):b9 (nq m p x y):=by
 unfold nq;rcases dD (x*(m.cls.getD p.snd.toNat default).length+y).toNat p.bg.length with h|h
 ·unfold gm at hp;simp only[bd,g7,List.any_eq_false]at hp;have:=hp.2 _ (aG (d:=0) h);unfold l6 at this;simp only[bd,decide_eq_true_eq,g7,not_and,Bool.not_eq_false]at this;generalize p.bg.getD (x*(m.cls.getD p.snd.toNat default).length+y).toNat 0=n at *;by_cases h0:n=0
  ·subst h0;unfold b9;decide
  ·exact qz (this h0)
 ·rw[aw,iF h];unfold b9;decide
def gH(left:List (List Int))(f:Nat)(xs:List Int)(i:Nat)(seen:List Bool)(owner:List Int):Bool×List Bool×List Int :=
 match xs with
 |[]=>(false,seen,owner)
 |x::r =>
  if seen.getD x.toNat false=true then gH left f r i seen owner
  else if owner.getD x.toNat 0<0 then(true,seen.set x.toNat true,owner.set x.toNat i)
  else match f with
   |0=>(false,seen.set x.toNat true,owner)
   |f+1 =>
    let q:=gH left f (left.getD (owner.getD x.toNat 0).toNat []) (owner.getD x.toNat 0).toNat (seen.set x.toNat true) owner
    if q.1=true then(true,q.2.1,q.2.2.set x.toNat i) else gH left (f+1) r i q.2.1 q.2.2
termination_by (f,xs.length)
def ig(seen:List Bool):Nat:=seen.count false
def wH(seen:List Bool)(n:Nat)(h:n<seen.length)(hf:seen.getD n false=false):ig (seen.set n true)+1=ig seen:=by
 unfold ig;rw[List.count_set h];have:seen[n]=false:=by simpa [h] using hf
 have h1:0<seen.count false:=List.count_pos_iff.2 (by rw[<- this];exact nM h);simp[this];omega
def gp(n:Nat)(R:Nat)(owner:List Int):Prop:=owner.length=R/\∀ o∈owner,-1<=o/\o<n
def eP(R:Nat)(left:List (List Int)):Prop:=left.length<1000000/\∀ l∈left,l.length<1000000/\∀ x∈l,0<=x/\x<R
def gp.set{n R:Nat}{owner:List Int}(h:gp n R owner){x i:Nat}(hi:i<n):gp n R (owner.set x i) :=
 ⟨by simpa using h.1,λo ho=>by
  rcases qW ho with h'|h'
  ·exact h.2 o h'
  ·subst h';omega⟩
def gp.get{n R:Nat}{owner:List Int}(h:gp n R owner){x:Nat}(hx:x<R): -1<=owner.getD x 0/\owner.getD x 0<n:=by
 have hl:x<owner.length:=by rw[h.1];exact hx
 rw[aw,bc hl];exact h.2 _ (nM hl)
def eP.get{R:Nat}{left:List (List Int)}(h:eP R left)(i:Nat):(left.getD i []).length<1000000/\∀ x∈left.getD i [],0<=x/\x<R:=by
 rcases dD i left.length with hi|hi
 ·rw[aw,bc hi];exact h.2 _ (nM hi)
 ·rw[aw,iF hi];simp
def yX{left:List (List Int)}{R:Nat}(hL:eP R left):∀ (f:Nat) (xs:List Int) (i:Nat) (seen:List Bool) (owner:List Int),(∀ x∈xs,0<=x/\x<R)->i<left.length->gp left.length R owner->seen.length=R ->
  gp left.length R (gH left f xs i seen owner).2.2/\(gH left f xs i seen owner).2.1.length=R/\ig (gH left f xs i seen owner).2.1<=ig seen:=by
 intro f
 induction f using xO with
 |_ f pA =>
  intro xs
  induction xs with
  |nil=>intro i seen owner _ _ ho hs;rw[gH];exact⟨ho,hs,aM _⟩
  |cons x r ih =>
   intro i seen owner hx hi ho hs;have hx0:=hx x Dg;have tg:∀ y∈r,0<=y/\y<R:=λy hy=>hx y (by simp[hy]);have bw:x.toNat<seen.length:=Ay;rw[gH.eq_def];simp only;split
   ·exact ih i seen owner tg hi ho hs
   ·rename_i N6;have hc:=wH seen x.toNat bw (by simpa using N6);split
    ·exact⟨ho.set hi,by simpa using hs,by simp only;omega⟩
    ·rename_i Z5;have hg:=ho.get (x:=x.toNat) Ay;cases f with
     |zero=>exact⟨ho,by simpa using hs,by simp only;omega⟩
     |succ f' =>
      have h1:=pA f' Ay (left.getD (owner.getD x.toNat 0).toNat []) (owner.getD x.toNat 0).toNat (seen.set x.toNat true) owner (hL.get _).2 Ay ho (by simpa using hs);obtain⟨a1,a2,a3⟩:=h1;simp only;split
      ·exact⟨a1.set hi,a2,by simp only;omega⟩
      ·have h2:=ih i _ _ tg hi a1 a2;exact⟨h2.1,h2.2.1,Ay⟩
def iO(right:Int):List Int->Int
 |[]=>0
 |n::r=>if n<0\/n >= right then 3 else iO right r
def iP(right:Int):List (List Int)->Int
 |[]=>0
 |l::r=>if l.length > 4096 then 2 else if iO right l≠0 then 3 else iP right r
def check(left:List (List Int))(right:Int):Int:=if left.length > 256 then 2 else if right<0\/right > 4096 then 3 else iP right left
def rK(left:List (List Int))(R:Nat)(oD:Int):Nat->Nat->Nat->List Int->Nat
 |0,_,n,_=>n
 |c+1,i,n,owner =>
  if(i:Int)=oD then rK left R oD c (i+1) n owner
  else
   let q:=gH left R (left.getD i []) i (ax R false) owner
   rK left R oD c (i+1) (if q.1=true then n+1 else n) q.2.2
def size(left:List (List Int))(R:Nat)(oD:Int):Nat:=rK left R oD left.length 0 0 (ax R (-1))
def E0(R:Nat):ig (ax R false)=R:=by simp[ig]
def gp.rep(n R:Nat):gp n R (ax R (-1)):=⟨Dg,λo ho=>by
 have:=ui ho;subst this;omega⟩
def ed(left:List (List Int))(f:Nat)(xs:List Int)(i:Nat)(seen:List Bool)(owner number:List Int):Bool×List Bool×List Int×List Int :=
 match xs with
 |[]=>(false,seen,owner,number)
 |x::r =>
  if seen.getD x.toNat false=true then ed left f r i seen owner number
  else if owner.getD x.toNat 0<0 then(true,seen.set x.toNat true,owner.set x.toNat i,number.set i x)
  else match f with
   |0=>(false,seen.set x.toNat true,owner,number)
   |f+1 =>
    let q:=ed left f (left.getD (owner.getD x.toNat 0).toNat []) (owner.getD x.toNat 0).toNat (seen.set x.toNat true) owner number
    if q.1=true then(true,q.2.1,q.2.2.1.set x.toNat i,q.2.2.2.set i x) else ed left (f+1) r i q.2.1 q.2.2.1 q.2.2.2
termination_by (f,xs.length)
def BS(left:List (List Int)):∀ (f:Nat) (xs:List Int) (i:Nat) (seen:List Bool) (owner number:List Int),
  (ed left f xs i seen owner number).1=(gH left f xs i seen owner).1/\(ed left f xs i seen owner number).2.1=(gH left f xs i seen owner).2.1/\(ed left f xs i seen owner number).2.2.1=(gH left f xs i seen owner).2.2 /\
  (ed left f xs i seen owner number).2.2.2.length=number.length:=by
 intro f
 induction f using xO with
 |_ f pA =>
  intro xs
  induction xs with
  |nil=>intro i seen owner number;rw[ed.eq_def,gH.eq_def];exact⟨rfl,rfl,rfl,rfl⟩
  |cons x r ih =>
   intro i seen owner number;rw[ed.eq_def,gH.eq_def];simp only;split
   ·exact ih i seen owner number
   ·split
    ·exact⟨rfl,rfl,rfl,Dg⟩
    ·cases f with
     |zero=>exact⟨rfl,rfl,rfl,rfl⟩
     |succ f' =>
      obtain⟨h1,h2,h3,h4⟩:=pA f' Ay (left.getD (owner.getD x.toNat 0).toNat []) (owner.getD x.toNat 0).toNat (seen.set x.toNat true) owner number;simp only;rw[h1,h2,h3];split
      ·exact⟨rfl,rfl,rfl,by rw[bt];exact h4⟩
      ·have:=ih i (gH left f' (left.getD (owner.getD x.toNat 0).toNat []) (owner.getD x.toNat 0).toNat (seen.set x.toNat true) owner).2.1 (gH left f' (left.getD (owner.getD x.toNat 0).toNat []) (owner.getD x.toNat 0).toNat (seen.set x.toNat true) owner).2.2
        (ed left f' (left.getD (owner.getD x.toNat 0).toNat []) (owner.getD x.toNat 0).toNat (seen.set x.toNat true) owner number).2.2.2
       rw[h4]at this;exact this
def N7{n k:Nat}(h:k<=n)(a b:Int):(ax k a++ax (n-k) b).length=n:=aab
def N8{n k:Nat}(h:k<n)(a b:Int):(ax k a++ax (n-k) b).set k a=ax (k+1) a++ax (n-(k+1)) b:=by
 have:n-k=(n-(k+1))+1:=Ay;rw[this,xT (n:=n-(k+1)),uj _ _ Dg,List.length_replicate,kB,uc,List.replicate_succ'];simp
def oE(left:List (List Int))(R:Nat):Nat->Nat->List Int->List Int->List Int×List Int
 |0,_,owner,number=>(owner,number)
 |c+1,i,owner,number =>
  let q:=ed left R (left.getD i []) i (ax R false) owner number
  oE left R c (i+1) q.2.2.1 q.2.2.2
def fX(left:List (List Int))(R:Nat):List Int×List Int:=oE left R left.length 0 (ax R (-1)) (ax left.length (-1))
def wI(left:List (List Int))(right:Int):List Int×Int:=if check left right≠0 then([],check left right) else((fX left right.toNat).2,0)
def UP{right:Int}{l:List Int}(h:iO right l=0):∀ x∈l,0<=x/\x<right:=by
 induction l with
 |nil=>simp
 |cons n r ih =>
  rw[iO]at h;split at h
  ·omega
  ·intro x hx;rcases cD.1 hx with rfl|hx
   ·omega
   ·exact ih h x hx
def UQ{right:Int}{left:List (List Int)}(h:iP right left=0):∀ l∈left,l.length<=4096/\∀ x∈l,0<=x/\x<right:=by
 induction left with
 |nil=>simp
 |cons l r ih =>
  rw[iP]at h;split at h
  ·omega
  ·split at h
   ·omega
   ·intro y hy;rename_i h1 h2;rcases cD.1 hy with rfl|hy
    ·exact⟨Ay,UP Ay⟩
    ·exact ih h y hy
def yY{left:List (List Int)}{right:Int}(h:check left right=0):eP right.toNat left/\0<=right/\right<=4096:=by
 unfold check at h;split at h
 ·omega
 ·split at h
  ·omega
  ·rename_i h1 h2;refine⟨⟨Ay,λl hl=>?_⟩,Ay,Ay⟩;obtain⟨a,b⟩:=UQ h l hl;exact⟨Ay,λx hx=>by have:=b x hx;omega⟩
def cy:List Bool->Nat->List Int
 |[],_=>[]
 |b::r,k=>if b=true then(k:Int)::cy r (k+1) else cy r (k+1)
def fK(list:List Int):List Int->List Int->List Bool->List Bool->List Int×List Bool×List Bool
 |[],q,used,aB=>(q,used,aB)
 |n::r,q,used,aB =>
  if 0<=list.getD n.toNat 0/\aB.getD (list.getD n.toNat 0).toNat false=false then fK list r (q++[list.getD n.toNat 0]) (used.set n.toNat true) (aB.set (list.getD n.toNat 0).toNat true)
  else fK list r q (used.set n.toNat true) aB
def ns(left:List (List Int))(list:List Int):Nat->List Int->List Bool->List Bool->List Bool×List Bool
 |0,_,used,aB=>(used,aB)
 |_+1,[],used,aB=>(used,aB)
 |f+1,i::q,used,aB=>let z:=fK list (left.getD i.toNat []) q used aB;ns left list f z.1 z.2.1 z.2.2
def ij(m:List Int):List Bool:=m.map λn=>decide (n<0)
def ca(left:List (List Int))(R:Nat):List Int×List Int :=
 let z:=ns left (fX left R).1 left.length (cy (ij (fX left R).2) 0) (ax R false) (ij (fX left R).2)
 (cy z.2 0,cy z.1 0)
def jb(left:List (List Int))(right:Int):List Int×List Int×Int:=if check left right≠0 then([],[],check left right) else((ca left right.toNat).1,(ca left right.toNat).2,0)
def N9{left:List (List Int)}{R:Nat}(hL:eP R left):∀ (c i:Nat) (owner number:List Int),i+c<=left.length->gp left.length R owner->gp left.length R (oE left R c i owner number).1/\(oE left R c i owner number).2.length=number.length
 |0,i,owner,number,_,ho=>⟨ho,rfl⟩
 |c+1,i,owner,number,hi,ho=>by
  have aK:=yX hL R (left.getD i []) i (ax R false) owner (hL.get _).2 Ay ho Dg;obtain⟨e1,e2,e3,e4⟩:=BS left R (left.getD i []) i (ax R false) owner number;rw[<- e3]at aK;rw[oE];obtain⟨a,b⟩:=N9 hL c (i+1) _ (ed left R (left.getD i []) i (ax R false) owner number).2.2.2 Ay aK.1;exact⟨a,b.trans e4⟩
def UR{left:List (List Int)}{R:Nat}(hL:eP R left):gp left.length R (fX left R).1/\(fX left R).2.length=left.length:=by
 obtain⟨a,b⟩:=N9 hL left.length 0 (ax R (-1)) (ax left.length (-1)) Ay (gp.rep _ _);exact⟨a,by rw[fX,b];simp⟩
def US{l:List Bool}{k n:Nat}(hl:l.length=n)(hk:k<n)(h:l.getD k false=true):(l.take k++ax (n-k) false).set k true=l.take (k+1)++ax (n-(k+1)) false:=by
 have e:n-k=(n-(k+1))+1:=Ay;rw[e,xT,uj _ _ aab,List.length_take,Nat.min_eq_left Ay,kB,uc,Hn];have:l[k]?=some true:=by
  have aQ:k<l.length:=Ay;rw[aw,bc aQ,dK]at h;rw[bc aQ,h]
 simp[this]
def UT{l:List Bool}{k n:Nat}(hl:l.length=n)(hk:k<n)(h:l.getD k false=false):l.take k++ax (n-k) false=l.take (k+1)++ax (n-(k+1)) false:=by
 have e:n-k=(n-(k+1))+1:=Ay;rw[e,xT,Hn];have:l[k]?=some false:=by
  have aQ:k<l.length:=Ay;rw[aw,bc aQ,dK]at h;rw[bc aQ,h]
 simp[this]
def pB(l:List Bool):∀ (k:Nat),∀ x∈cy l k,(k:Int)<=x/\x<(k+l.length:Nat):=by
 induction l with
 |nil=>intro k x hx;simp[cy]at hx
 |cons b r ih =>
  intro k x hx;rw[cy]at hx;have:=ih (k+1) x;simp only[cK];split at hx
  ·rcases cD.1 hx with rfl|hx
   ·omega
   ·have:=this hx;omega
  ·have:=this hx;omega
def va(l:List Bool):∀ (k:Nat),(cy l k).length+ig l=l.length:=by
 induction l with
 |nil=>intro k;rfl
 |cons b r ih =>
  intro k;have:=ih (k+1);rw[cy];unfold ig at *;cases b<;>simp<;>omega
def BT{list:List Int}{n R:Nat}(ho:gp n R list):∀ (l:List Int) (q:List Int) (used aB:List Bool),(∀ x∈l,0<=x/\x<R)->(∀ x∈q,0<=x/\x<n)->used.length=R->aB.length=n ->
  (∀ x∈(fK list l q used aB).1,0<=x/\x<n)/\(fK list l q used aB).2.1.length=R/\(fK list l q used aB).2.2.length=n/\(fK list l q used aB).1.length+ig (fK list l q used aB).2.2=q.length+ig aB
 |[],q,used,aB,_,hq,hu,hi=>⟨hq,hu,hi,rfl⟩
 |x::r,q,used,aB,hl,hq,hu,hi=>by
  have hx:=hl x Dg;have hr:∀ x∈r,0<=x/\x<R:=λy hy=>hl y (by simp[hy]);have yZ:=ho.get (x:=x.toNat) Ay;rw[fK];split
  ·rename_i hc;have q8:=wH aB (list.getD x.toNat 0).toNat Ay hc.2;obtain⟨a,b,c,d⟩:=BT ho r (q++[list.getD x.toNat 0]) (used.set x.toNat true) (aB.set (list.getD x.toNat 0).toNat true) hr (by
    intro y hy;rcases bj.1 hy with hy|hy
    ·exact hq y hy
    ·simp only[bm]at hy;subst hy;omega) (by simpa using hu) (by simpa using hi)
   refine⟨a,b,c,?_⟩;rw[d,List.length_append,List.length_singleton];omega
  ·exact BT ho r q _ aB hr hq (by simpa using hu) hi
def E1(n:Nat)(q:List Int):Prop:=∀ x∈q,0<=x/\x<n
def oF:List Int->List Bool->List Bool
 |[],aB=>aB
 |x::r,aB=>oF r (aB.set x.toNat true)
def N':∀ (l:List Int) (aB:List Bool),(oF l aB).length=aB.length
 |[],aB=>rfl
 |x::r,aB=>by rw[oF,N' r];simp
def mL(left:List (List Int))(R n:Nat):Nat->Nat->List Int->List Bool->List Int×List Bool
 |0,_,g,aB=>(g,aB)
 |c+1,i,g,aB=>if size left R i=n then mL left R n c (i+1) (g++[(i:Int)]) (oF (left.getD i []) aB) else mL left R n c (i+1) g aB
def wJ(left:List (List Int))(R:Nat):List Int×List Int :=
 ((mL left R (size left R (-1)) left.length 0 [] (ax R false)).1,cy (mL left R (size left R (-1)) left.length 0 [] (ax R false)).2 0)
def vb(left:List (List Int))(right:Int):List Int×List Int×Int:=if check left right≠0 then([],[],check left right) else((wJ left right.toNat).1,(wJ left right.toNat).2,0)
def oG{α:Type}(l:List α)(i j:Nat)(v d:α)(h:i<l.length):(l.set i v).getD j d=if j=i then v else l.getD j d:=by
 simp only[aw,cj];by_cases mM:j=i
 ·subst mM;simp[h]
 ·simp[mM,Ne.symm mM]
def jZ{α:Type}(l:List α)(i j:Nat)(v d:α)(h:j≠i):(l.set i v).getD j d=l.getD j d:=by
 simp only[aw,cj];simp[Ne.symm h]
def nt{α:Type}(l:List α)(i:Nat)(v d:α)(h:i<l.length):(l.set i v).getD i d=v:=by
 rw[oG _ _ _ _ _ h];simp
def rL{α:Type}(n j:Nat)(v:α):(ax n v).getD j v=v:=by
 simp only[aw,Hl];split<;>rfl
def y7{α:Type}(n j:Nat)(v d:α)(h:j<n):(ax n v).getD j d=v:=by
 simp only[aw,Hl,h,if_true,dK]
structure rM(left:List (List Int))(R:Nat)(owner number:List Int):Prop where
 hO:gp left.length R owner
 hN:number.length=left.length
 g6:∀ j,j<left.length->-1<=number.getD j 0
 fwd:∀ j,j<left.length->0<=number.getD j 0->number.getD j 0<R/\owner.getD (number.getD j 0).toNat 0=j/\number.getD j 0∈left.getD j []
 bwd:∀ x,x<R->0<=owner.getD x 0->number.getD (owner.getD x 0).toNat 0=x
structure UU(left:List (List Int))(R:Nat)(xs:List Int)(i:Nat)(seen:List Bool)(owner number qB oH:List Int):Prop where
 hO:gp left.length R qB
 hN:oH.length=left.length
 g6:∀ j,j<left.length->-1<=oH.getD j 0
 fwd:∀ j,j<left.length->j≠i->0<=oH.getD j 0->oH.getD j 0<R/\qB.getD (oH.getD j 0).toNat 0=j/\oH.getD j 0∈left.getD j []
 bwd:∀ x,x<R->0<=qB.getD x 0->qB.getD x 0≠i->oH.getD (qB.getD x 0).toNat 0=x
 me :∃y,y<R/\oH.getD i 0=(y:Nat)/\qB.getD y 0=i/\(y:Int)∈xs/\seen.getD y false=false/\∀ x,x<R->qB.getD x 0=i->x=y\/seen.getD x false=true
 cO:∀ x,x<R->seen.getD x false=true->qB.getD x 0=owner.getD x 0
 same:∀ j,j<left.length->j≠i->(number.getD j 0<0\/∃ x,x<R/\number.getD j 0=(x:Nat)/\seen.getD x false=true)->oH.getD j 0=number.getD j 0
 pos:∀ j,j<left.length->j≠i->(0<=oH.getD j 0↔0<=number.getD j 0)
structure UW(left:List (List Int))(R:Nat)(xs:List Int)(seen:List Bool)(owner number:List Int)(E2:List Bool)(qB oH:List Int):Prop where
 eo:qB=owner
 en:oH=number
 all:∀ x∈xs,E2.getD x.toNat false=true
 cl:∀ x,x<R->E2.getD x false=true->seen.getD x false=true\/(0<=owner.getD x 0/\∀ y∈left.getD (owner.getD x 0).toNat [],E2.getD y.toNat false=true)
def UX{left:List (List Int)}{R:Nat}(hL:eP R left):∀ (f:Nat) (xs:List Int) (i:Nat) (seen:List Bool) (owner number:List Int),ig seen<=f->seen.length=R->(∀ x∈xs,0<=x/\x<R)->i<left.length->rM left R owner number ->
  (∀ x,x<R->owner.getD x 0=i->seen.getD x false=true)->∀ q,ed left f xs i seen owner number=q ->
   (q.1=true->UU left R xs i seen owner number q.2.2.1 q.2.2.2)/\(q.1=false->UW left R xs seen owner number q.2.1 q.2.2.1 q.2.2.2)/\(∀ x,seen.getD x false=true->q.2.1.getD x false=true)/\q.2.1.length=R/\ig q.2.1<=ig seen:=by
 intro f
 induction f using xO with
 |_ f pA =>
  intro xs
  induction xs with
  |nil =>
   intro i seen owner number hc hs hx hi hM h3 q hq;rw[ed.eq_def]at hq;subst hq;exact⟨Dg,λ_=>⟨rfl,rfl,Dg,λx _ h=>.inl h⟩,λ_ h=>h,hs,aM _⟩
  |cons x r ih =>
   intro i seen owner number hc hs hx hi hM h3 q hq;obtain⟨hx0,Z6⟩:=hx x Dg;have hr:∀ x∈r,0<=x/\x<R:=λy hy=>hx y (by simp[hy]);obtain⟨n,rfl⟩:∃n:Nat,x=n:=⟨x.toNat,Ay⟩;rw[ed.eq_def]at hq;simp only[dz]at hq;have th:n<R:=Ay;have jX:n<owner.length:=by rw[hM.hO.1];exact th
   have eO:i<number.length:=by rw[hM.hN];exact hi
   by_cases kj:seen.getD n false=true
   ·rw[if_pos kj]at hq;obtain⟨a,b,c,d,e⟩:=ih i seen owner number hc hs hr hi hM h3 q hq;refine⟨λh=>?_,λh=>?_,c,d,e⟩
    ·obtain⟨y,y1,y2,y3,y4,y5,y6⟩:=(a h).me;exact { a h with me:=⟨y,y1,y2,y3,by simp[y4],y5,y6⟩ }
    ·refine { b h with all:=λy hy=>?_ };rcases cD.1 hy with rfl|hy
     ·simpa using c n kj
     ·exact(b h).all y hy
   ·have E3:seen.getD n false=false:=by simpa using kj
    rw[if_neg kj]at hq;have kg:=wH seen n Ay E3;have yZ:=hM.hO.get th;have oI:∀ x,seen.getD x false=true->(seen.set n true).getD x false=true:=λx hx=>by
     rw[oG _ _ _ _ _ Ay];split<;>simp_all
    by_cases mq:owner.getD n 0<0
    ·rw[if_pos mq]at hq;subst hq;refine⟨λ_=>?_,Dg,oI,by simpa using hs,aaa⟩;dsimp only;refine⟨hM.hO.set hi,by simpa using hM.hN,?_,?_,?_,⟨n,th,nt _ _ _ _ eO,nt _ _ _ _ jX,Dg,E3,?_⟩,?_,?_,?_⟩
     ·intro j hj;rw[oG _ _ _ _ _ eO];split
      ·omega
      ·exact hM.g6 j hj
     ·intro j hj dI h0;rw[jZ _ _ _ _ _ dI]at h0 ⊢;obtain⟨a,b,c⟩:=hM.fwd j hj h0;refine⟨a,?_,c⟩;rw[jZ]
      ·exact b
      ·intro e;rw[e]at b;omega
     ·intro y hy h0 bI;by_cases rN:y=n
      ·subst rN;rw[nt _ _ _ _ jX]at bI;exact absurd rfl bI
      ·rw[jZ _ _ _ _ _ rN]at h0 bI ⊢;rw[jZ]
       ·exact hM.bwd y hy h0
       ·omega
     ·intro y hy he;by_cases rN:y=n
      ·exact .inl rN
      ·rw[jZ _ _ _ _ _ rN]at he;exact .inr (h3 y hy he)
     ·intro y hy BU;rw[jZ];intro e;subst e;simp_all
     ·intro j hj dI _;exact jZ _ _ _ _ _ dI
     ·intro j hj dI;rw[jZ _ _ _ _ _ dI]
    ·rw[if_neg mq]at hq;obtain⟨f',rfl⟩:∃f',f=f'+1:=⟨f-1,Ay⟩;simp only at hq;obtain⟨o,ho⟩:∃o:Nat,owner.getD n 0=o:=⟨(owner.getD n 0).toNat,Ay⟩;rw[ho]at hq;simp only[dz]at hq;have py:o<left.length:=Ay;have E4:number.getD o 0=n:=by
      have:=hM.bwd n th Ay;rwa [ho,dz]at this
     have UY:o≠i:=by
      intro e;subst e;have:=h3 n th ho;simp_all
     have E5:∀ x,x<R->owner.getD x 0=o->(seen.set n true).getD x false=true:=by
      intro y hy he;have:=hM.bwd y hy Ay;rw[he,dz,E4]at this;have:y=n:=Ay;subst this;exact nt _ _ _ _ Ay
     have hp:=pA f' Ay (left.getD o []) o (seen.set n true) owner number Ay (by simpa using hs) (hL.get _).2 py hM E5 _ rfl;generalize ed left f' (left.getD o []) o (seen.set n true) owner number=p at hp hq;obtain⟨p1,p2,p3,p4,p5⟩:=hp;by_cases BV:p.1=true
     ·rw[if_pos BV]at hq;subst hq;have hE:=p1 BV;obtain⟨pb,ps,po,pn⟩:=p;dsimp only at hE p3 p4 p5 ⊢;obtain⟨y,y1,y2,y3,y4,y5,y6⟩:=hE.me;have Oa:n<po.length:=by rw[hE.hO.1];exact th
      have wK:i<pn.length:=by rw[hE.hN];exact hi
      have UZ:po.getD n 0=o:=by rw[hE.cO n th (nt _ _ _ _ Ay),ho]
      have rN:y≠n:=by
       intro e;subst e;rw[nt _ _ _ _ Ay]at y5;simp at y5
      have U0:pn.getD i 0=number.getD i 0:=by
       refine hE.same i hi (Ne.symm UY) ?_;by_cases h0:number.getD i 0<0
       ·exact .inl h0
       ·right;obtain⟨a,b,c⟩:=hM.fwd i hi Ay;exact⟨(number.getD i 0).toNat,Ay,Ay,oI _ (h3 _ Ay b)⟩
      refine⟨λ_=>⟨hE.hO.set hi,by simpa using hE.hN,?_,?_,?_,⟨n,th,nt _ _ _ _ wK,nt _ _ _ _ Oa,Dg,E3,?_⟩,?_,?_,?_⟩,Dg,λx h=>p3 x (oI x h),p4,Ay⟩
      ·intro j hj;rw[oG _ _ _ _ _ wK];split
       ·omega
       ·exact hE.g6 j hj
      ·intro j hj dI h0;rw[jZ _ _ _ _ _ dI]at h0 ⊢;by_cases vc:j=o
       ·subst vc;rw[y2];refine⟨Ay,?_,y4⟩;rw[dz,jZ _ _ _ _ _ rN];exact y3
       ·obtain⟨a,b,c⟩:=hE.fwd j hj vc h0;refine⟨a,?_,c⟩;rw[jZ]
        ·exact b
        ·intro e;rw[e,UZ]at b;omega
      ·intro z hz h0 bI;by_cases vd:z=n
       ·subst vd;rw[nt _ _ _ _ Oa]at bI;exact absurd rfl bI
       ·rw[jZ _ _ _ _ _ vd]at h0 bI ⊢;rw[jZ _ _ _ _ _ Ay];by_cases wL:po.getD z 0=o
        ·rcases y6 z hz wL with rfl|aE
         ·rw[wL,dz,y2]
         ·have:=hE.cO z hz aE;rw[wL]at this;have hb:=hM.bwd z hz Ay;rw[<- this,dz,E4]at hb;omega
        ·exact hE.bwd z hz h0 wL
      ·intro z hz he;by_cases vd:z=n
       ·exact .inl vd
       ·right;rw[jZ _ _ _ _ _ vd]at he;have hb:=hE.bwd z hz Ay Ay;rw[he,dz,U0]at hb;obtain⟨a,b,c⟩:=hM.fwd i hi Ay;rw[hb,dz]at b;exact h3 z hz b
      ·intro z hz aE;have vd:z≠n:=by intro e;subst e;simp_all
       rw[jZ _ _ _ _ _ vd];exact hE.cO z hz (oI z aE)
      ·intro j hj dI pC;rw[jZ _ _ _ _ _ dI];have vc:j≠o:=by
        intro e;subst e;rcases pC with h|⟨z,hz,rz,BW⟩
        ·omega
        ·have:z=n:=Ay;subst this;simp_all
       refine hE.same j hj vc ?_;rcases pC with h|⟨z,hz,rz,BW⟩
       ·exact .inl h
       ·exact .inr ⟨z,hz,rz,oI z BW⟩
      ·intro j hj dI;rw[jZ _ _ _ _ _ dI];by_cases vc:j=o
       ·subst vc;rw[y2,E4];omega
       ·exact hE.pos j hj vc
     ·rw[if_neg BV]at hq;have hF:=p2 (by simpa using BV);obtain⟨pb,ps,po,pn⟩:=p;dsimp only at hF p3 p4 p5 hq;obtain⟨rfl,rfl,U1,U2⟩:=hF;obtain⟨a,b,c,d,e⟩:=ih i ps po pn Ay p4 hr hi hM (λx hx h=>p3 x (oI x (h3 x hx h))) q hq;refine⟨λh=>?_,λh=>?_,λx h=>c x (p3 x (oI x h)),d,Ay⟩
      ·have hE:=a h;obtain⟨y,y1,y2,y3,y4,y5,y6⟩:=hE.me;refine⟨hE.hO,hE.hN,hE.g6,hE.fwd,hE.bwd,⟨y,y1,y2,y3,by simp[y4],?_,?_⟩,λz hz h=>hE.cO z hz (p3 z (oI z h)),?_,hE.pos⟩
       ·cases BU:seen.getD y false with
        |false=>rfl
        |true=>rw[p3 y (oI y BU)]at y5;simp at y5
       ·intro z hz he;rcases y6 z hz he with h|h
        ·exact .inl h
        ·right;have hk:=hE.cO z hz h;rw[he]at hk;exact h3 z hz hk.symm
       ·intro j hj dI pC;refine hE.same j hj dI ?_;rcases pC with h|⟨z,hz,rz,BW⟩
        ·exact .inl h
        ·exact .inr ⟨z,hz,rz,p3 z (oI z BW)⟩
      ·have hG:=b h;refine⟨hG.eo,hG.en,λy hy=>?_,λy hy BU=>?_⟩
       ·rcases cD.1 hy with rfl|hy
        ·rw[dz];exact c n (p3 n (nt _ _ _ _ Ay))
        ·exact hG.all y hy
       ·rcases hG.cl y hy BU with h'|h'
        ·rcases U2 y hy h' with kM|kM
         ·rw[oG _ _ _ _ _ Ay]at kM;split at kM
          ·rename_i rN;subst rN;right;refine⟨Ay,?_⟩;rw[ho,dz];intro z hz;exact c _ (U1 z hz)
          ·exact .inl kM
         ·exact .inr ⟨kM.1,λz hz=>c _ (kM.2 z hz)⟩
        ·exact .inr h'
def BX(left:List (List Int))(R:Nat)(D:Nat->Prop)(owner:List Int):Prop:=∀ x,x<R->D x->0<=owner.getD x 0/\∀ y∈left.getD (owner.getD x 0).toNat [],D y.toNat
def U3{left:List (List Int)}{R:Nat}(hL:eP R left){D:Nat->Prop}:∀ (f:Nat) (xs:List Int) (i:Nat) (seen:List Bool) (owner number:List Int),(∀ x∈xs,0<=x/\x<R)->BX left R D owner ->
  ((∀ x∈xs,D x.toNat)->(ed left f xs i seen owner number).1=false)/\∀ x,x<R->D x->(ed left f xs i seen owner number).2.2.1.getD x 0=owner.getD x 0:=by
 intro f
 induction f using xO with
 |_ f pA =>
  intro xs
  induction xs with
  |nil=>intro i seen owner number _ hC;rw[ed.eq_def];exact⟨λ_=>rfl,λ_ _ _=>rfl⟩
  |cons x r ih =>
   intro i seen owner number hx hC;have hr:∀ x∈r,0<=x/\x<R:=λy hy=>hx y (by simp[hy]);have hx1:=hx x Dg;rw[ed.eq_def];simp only;split
   ·obtain⟨a,b⟩:=ih i seen owner number hr hC;exact⟨λh=>a λy hy=>h y (by simp[hy]),b⟩
   ·split
    ·rename_i h1 h2;refine⟨λh=>?_,λy hy hD=>?_⟩
     ·have:=(hC x.toNat Ay (h x Dg)).1;omega
     ·rw[jZ];intro e;subst e;have:=(hC _ hy hD).1;omega
    ·cases f with
     |zero=>exact⟨λ_=>rfl,λ_ _ _=>rfl⟩
     |succ f' =>
      obtain⟨a,b⟩:=pA f' Ay (left.getD (owner.getD x.toNat 0).toNat []) (owner.getD x.toNat 0).toNat (seen.set x.toNat true) owner number (hL.get _).2 hC;simp only;generalize ed left f' (left.getD (owner.getD x.toNat 0).toNat []) (owner.getD x.toNat 0).toNat (seen.set x.toNat true) owner number=p at a b ⊢;have U4:BX left R D p.2.2.1:=by
       intro y hy hD;rw[b y hy hD];exact hC y hy hD
      split
      ·rename_i hp;refine⟨λh=>?_,λy hy hD=>?_⟩
       ·have:=a (hC x.toNat Ay (h x Dg)).2;simp_all
       ·dsimp only;rw[jZ]
        ·exact b y hy hD
        ·intro e;subst e;have:=a (hC _ hy hD).2;simp_all
      ·obtain⟨c,d⟩:=ih i p.2.1 p.2.2.1 p.2.2.2 hr U4;exact⟨λh=>c λy hy=>h y (by simp[hy]),λy hy hD=>(d y hy hD).trans (b y hy hD)⟩
def cn(n:Nat)(p:Nat->Bool):Nat:=(bD n).countP p
def E6(p:Nat->Bool):cn 0 p=0:=rfl
def kN(n:Nat)(p:Nat->Bool):cn (n+1) p=cn n p+(if p n=true then 1 else 0):=by
 simp only[cn,List.range_succ,List.countP_append,List.countP_cons,List.countP_nil,Nat.zero_add]
def qC{n:Nat}{p q:Nat->Bool}(h:∀ i,i<n->p i=q i):cn n p=cn n q:=by
 induction n with
 |zero=>rfl
 |succ n ih=>rw[kN,kN,ih λi hi=>h i Ay,h n Ay]
def rO{n:Nat}{p q:Nat->Bool}(h:∀ i,i<n->p i=true->q i=true):cn n p<=cn n q:=by
 induction n with
 |zero=>exact aM _
 |succ n ih =>
  rw[kN,kN];have:=ih λi hi=>h i Ay;have:=h n Ay;split<;>split<;>simp_all<;>omega
def qD(n:Nat)(p q:Nat->Bool):cn n p=cn n (λi=>p i&&q i)+cn n (λi=>p i&&!q i):=by
 induction n with
 |zero=>rfl
 |succ n ih =>
  rw[kN,kN,kN,ih];cases p n<;>cases q n<;>simp<;>omega
def E7{n:Nat}{p:Nat->Bool}(h:cn n p=0):∀ i,i<n->p i=false:=by
 induction n with
 |zero=>intro i hi;omega
 |succ n ih =>
  rw[kN]at h;intro i hi;rcases Nat.lt_succ_iff_lt_or_eq.1 hi with hi|rfl
  ·exact ih Ay i hi
  ·cases hp:p i with
   |false=>rfl
   |true=>rw[hp]at h;simp at h
def Od{n:Nat}{p:Nat->Bool}(h:∀ i,i<n->p i=false):cn n p=0:=by
 induction n with
 |zero=>rfl
 |succ n ih=>rw[kN,ih λi hi=>h i Ay,h n Ay];rfl
def Oe(n:Nat)(p:Nat->Bool):cn n p+cn n (λi=>!p i)=n:=by
 induction n with
 |zero=>rfl
 |succ n ih=>rw[kN,kN];cases p n<;>simp<;>omega
def E8{n:Nat}{p q:Nat->Bool}(k:Nat)(hk:k<n)(h:∀ i,i<n->i≠k->p i=q i)(hp:p k=true)(hq:q k=false):cn n p=cn n q+1:=by
 induction n with
 |zero=>omega
 |succ n ih =>
  rw[kN,kN];by_cases Of:k=n
  ·subst Of;rw[qC (p:=p) (q:=q) λi hi=>h i Ay Ay,hp,hq];rfl
  ·rw[ih Ay λi hi=>h i Ay,h n Ay (Ne.symm Of)];omega
def Og{n m:Nat}{p q:Nat->Bool}(f:Nat->Nat)(h1:∀ i,i<n->p i=true->f i<m/\q (f i)=true)(h2:∀ i j,i<n->j<n->p i=true->p j=true->f i=f j->i=j):cn n p<=cn m q:=by
 induction n generalizing q with
 |zero=>simp[E6]
 |succ n ih =>
  rw[kN];split
  ·rename_i hp;obtain⟨a,b⟩:=h1 n Ay hp;have e:=E8 (n:=m) (p:=q) (q:=λx=>q x&&!decide (x=f n)) (f n) a (λi _ hi=>by simp[hi]) b Dg;have:=ih (q:=λx=>q x&&!decide (x=f n)) (λi hi wK=>by
    obtain⟨c,d⟩:=h1 i Ay wK;refine⟨c,?_⟩;have:f i≠f n:=λe=>by have:=h2 i n Ay Ay wK hp e;omega
    simp[d,this]) (λi j hi hj=>h2 i j Ay Ay)
   omega
  ·exact ih (λi hi=>h1 i Ay) (λi j hi hj=>h2 i j Ay Ay)
def qE(left:List (List Int))(R:Nat)(w:Int):Nat->Nat->List Int->List Int->List Int×List Int
 |0,_,owner,number=>(owner,number)
 |c+1,i,owner,number =>
  if(i:Int)=w then qE left R w c (i+1) owner number
  else
   let q:=ed left R (left.getD i []) i (ax R false) owner number
   qE left R w c (i+1) q.2.2.1 q.2.2.2
def on(number:List Int)(i:Nat):Bool:=decide (0<=number.getD i 0)
structure Inv(left:List (List Int))(R:Nat)(w:Int)(i:Nat)(owner number:List Int)(D:Nat->Prop):Prop where
 ok:rM left R owner number
 rest:∀ j,j<left.length->(i<=j\/(j:Int)=w)->number.getD j 0 = -1
 cl:BX left R D owner
 dead:∀ j,j<i->j<left.length->(j:Int)≠w->number.getD j 0<0->∀ y∈left.getD j [],D y.toNat
def Inv.step{left:List (List Int)}{R:Nat}(hL:eP R left){w:Int}{i:Nat}{owner number:List Int}{D:Nat->Prop}(h:Inv left R w i owner number D)(hi:i<left.length)(hw:(i:Int)≠w):
  ∀ q,ed left R (left.getD i []) i (ax R false) owner number=q->(∃ D',Inv left R w (i+1) q.2.2.1 q.2.2.2 D')/\cn left.length (on q.2.2.2)=cn left.length (on number)+(if q.1=true then 1 else 0):=by
 intro q hq;have qj:=h.rest i hi (.inl (aM _));have h3:∀ x,x<R->owner.getD x 0=i->(ax R false).getD x false=true:=by
  intro x hx he;have:=h.ok.bwd x hx Ay;rw[he,dz,qj]at this;omega
 obtain⟨a,b,c,d,e⟩:=UX hL R (left.getD i []) i (ax R false) owner number (by rw[E0];exact aM _) Dg (hL.get _).2 hi h.ok h3 q hq;obtain⟨_,g⟩:=U3 hL (D:=D) R (left.getD i []) i (ax R false) owner number (hL.get _).2 h.cl;rw[hq]at g;have cS:BX left R D q.2.2.1:=by
  intro y hy hD;rw[g y hy hD];exact h.cl y hy hD
 cases hb:q.1 with
 |true =>
  have hE:=a hb;obtain⟨y,y1,y2,y3,y4,y5,y6⟩:=hE.me;refine⟨⟨D,⟨hE.hO,hE.hN,hE.g6,?_,?_⟩,?_,cS,?_⟩,?_⟩
  ·intro j hj h0;by_cases dI:j=i
   ·subst dI;rw[y2,dz];exact⟨Ay,y3,y4⟩
   ·exact hE.fwd j hj dI h0
  ·intro x hx h0;by_cases E9:q.2.2.1.getD x 0=i
   ·rcases y6 x hx E9 with rfl|h'
    ·rw[E9,dz,y2]
    ·rw[rL]at h';simp at h'
   ·exact hE.bwd x hx h0 E9
  ·intro j hj pC;have dI:j≠i:=by rcases pC with h|h<;>omega
   have hr:=h.rest j hj (by rcases pC with h|h<;>omega);have:=hE.pos j hj dI;have:=hE.g6 j hj;omega
  ·intro j hj gR y8 h0 z hz;have dI:j≠i:=by intro e;subst e;omega
   have:=hE.pos j gR dI;exact h.dead j Ay gR y8 Ay z hz
  ·rw[if_pos rfl];refine E8 i hi (λj hj dI=>?_) ?_ ?_
   ·have:=hE.pos j hj dI;simp only[on,this]
   ·rw[on,y2];exact decide_eq_true Ay
   ·simp only[on,qj];rfl
 |false =>
  have hF:=b hb;rw[hF.eo,hF.en];refine⟨⟨λx=>D x\/q.2.1.getD x false=true,h.ok,λj hj pC=>h.rest j hj (by rcases pC with h|h<;>omega),?_,?_⟩,Dg⟩
  ·intro x hx hD;rcases hD with hD|hD
   ·obtain⟨k,l⟩:=h.cl x hx hD;exact⟨k,λy hy=>.inl (l y hy)⟩
   ·rcases hF.cl x hx hD with h'|⟨k,l⟩
    ·rw[rL]at h';simp at h'
    ·exact⟨k,λy hy=>.inr (l y hy)⟩
  ·intro j hj gR y8 h0 z hz;by_cases dI:j=i
   ·subst dI;exact .inr (hF.all z hz)
   ·exact .inl (h.dead j Ay gR y8 h0 z hz)
def E'{left:List (List Int)}{R:Nat}(hL:eP R left){w:Int}:∀ (c i k:Nat) (owner number:List Int) (D:Nat->Prop),i+c=left.length->Inv left R w i owner number D ->
  (∃ D',Inv left R w left.length (qE left R w c i owner number).1 (qE left R w c i owner number).2 D')/\rK left R w c i k owner+cn left.length (on number)=k+cn left.length (on (qE left R w c i owner number).2)
 |0,i,k,owner,number,D,hi,h=>by
  rw[qE,rK];obtain rfl:i=left.length:=Ay;exact⟨⟨D,h⟩,rfl⟩
 |c+1,i,k,owner,number,D,hi,h=>by
  rw[qE,rK];by_cases hw:(i:Int)=w
  ·rw[if_pos hw,if_pos hw];exact E' hL c (i+1) k owner number D Ay { h with
    rest:=λj hj pC=>h.rest j hj (by rcases pC with h|h<;>omega)
    dead:=λj hj gR y8 h0=>h.dead j Ay gR y8 h0 }
  ·rw[if_neg hw,if_neg hw];obtain⟨⟨D',hI⟩,hc⟩:=h.step hL Ay hw _ rfl;obtain⟨e1,e2,e3,e4⟩:=BS left R (left.getD i []) i (ax R false) owner number;simp only;rw[<- e1,<- e3];obtain⟨a,b⟩:=E' hL c (i+1) (if(ed left R (left.getD i []) i (ax R false) owner number).1=true then k+1 else k) _ _ D' Ay hI;refine⟨a,?_⟩;split at hc<;>simp_all<;>omega
def ve(left:List (List Int))(R:Nat)(w:Int):List Int×List Int:=qE left R w left.length 0 (ax R (-1)) (ax left.length (-1))
def wM{left:List (List Int)}{R:Nat}(hL:eP R left)(w:Int):(∃ D,Inv left R w left.length (ve left R w).1 (ve left R w).2 D)/\size left R w=cn left.length (on (ve left R w).2):=by
 have h0:Inv left R w 0 (ax R (-1)) (ax left.length (-1)) (λ_=>False):=by
  refine⟨⟨gp.rep _ _,Dg,?_,?_,?_⟩,?_,?_,?_⟩
  ·intro j hj;rw[y7 _ _ _ _ hj];omega
  ·intro j hj h;rw[y7 _ _ _ _ hj]at h;omega
  ·intro j hj h;rw[y7 _ _ _ _ hj]at h;omega
  ·intro j hj _;rw[y7 _ _ _ _ hj]
  ·intro x _ h;exact h.elim
  ·intro j hj;omega
 obtain⟨a,b⟩:=E' hL left.length 0 0 _ _ _ Ay h0;refine⟨a,?_⟩;have:cn left.length (on (ax left.length (-1)))=0:=Od λi hi=>by rw[on,y7 _ _ _ _ hi];rfl
 rw[size];unfold ve;omega
def Oh(left:List (List Int))(R:Nat):∀ (c i:Nat) (owner number:List Int),qE left R (-1) c i owner number=oE left R c i owner number
 |0,i,owner,number=>rfl
 |c+1,i,owner,number=>by
  rw[qE,oE,if_neg Ay];exact Oh left R c (i+1) _ _
def Fa(left:List (List Int))(R:Nat):ve left R (-1)=fX left R:=Oh _ _ _ _ _ _
def y9{left:List (List Int)}{R:Nat}{owner number:List Int}(h:rM left R owner number){T D:Nat->Bool}(hT:∀ i,i<left.length->T i=true->∀ y∈left.getD i [],D y.toNat=true):
  cn left.length (λi=>T i&&on number i)<=cn R (λx=>D x&&decide (0<=owner.getD x 0)&&T (owner.getD x 0).toNat):=by
 refine Og (λi=>(number.getD i 0).toNat) (λi hi hp=>?_) (λi j hi hj hp hq he=>?_)
 ·simp only[bd,on,decide_eq_true_eq]at hp;obtain⟨a,b,c⟩:=h.fwd i hi hp.2;refine⟨Ay,?_⟩;simp only[b,dz,hp.1,hT i hi hp.1 _ c,iD,Bool.and_true,decide_eq_true_eq];omega
 ·simp only[bd,on,decide_eq_true_eq]at hp hq;obtain⟨a,b,c⟩:=h.fwd i hi hp.2;obtain⟨a',b',c'⟩:=h.fwd j hj hq.2;try dsimp only at he
  rw[he]at b;omega
def BY{left:List (List Int)}{R:Nat}{owner number:List Int}(h:rM left R owner number){T D:Nat->Bool}(hD:∀ x,x<R->D x=true->0<=owner.getD x 0/\T (owner.getD x 0).toNat=true):
  cn R D<=cn left.length (λi=>T i&&on number i):=by
 refine Og (λx=>(owner.getD x 0).toNat) (λx hx hp=>?_) (λx y hx hy hp hq he=>?_)
 ·obtain⟨a,b⟩:=hD x hx hp;have hg:=h.hO.get hx;refine⟨Ay,?_⟩;simp only[b,iD,on,decide_eq_true_eq];rw[h.bwd x hx a];omega
 ·obtain⟨a,b⟩:=hD x hx hp;obtain⟨a',b'⟩:=hD y hy hq;have e1:=h.bwd x hx a;have e2:=h.bwd y hy a';try dsimp only at he
  rw[he]at e1;omega
def za{list:List Int}:∀ (l q:List Int) (used aB:List Bool),(∀ i,i∈q->i∈(fK list l q used aB).1)/\(∀ x,used.getD x false=true->(fK list l q used aB).2.1.getD x false=true)/\(∀ i,aB.getD i false=true->(fK list l q used aB).2.2.getD i false=true)
 |[],q,used,aB=>⟨λ_ h=>h,λ_ h=>h,λ_ h=>h⟩
 |n::r,q,used,aB=>by
  have hm:∀ (l:List Bool) (k x:Nat),l.getD x false=true->(l.set k true).getD x false=true:=λl k x h=>by
   by_cases hk:k<l.length
   ·rw[oG _ _ _ _ _ hk];split<;>simp_all
   ·rw[List.set_eq_of_length_le Ay];exact h
  rw[fK];split
  ·obtain⟨a,b,c⟩:=za (list:=list) r (q++[list.getD n.toNat 0]) (used.set n.toNat true) (aB.set (list.getD n.toNat 0).toNat true);exact⟨λi h=>a i (by simp[h]),λx h=>b x (hm _ _ _ h),λx h=>c x (hm _ _ _ h)⟩
  ·obtain⟨a,b,c⟩:=za (list:=list) r q (used.set n.toNat true) aB;exact⟨a,λx h=>b x (hm _ _ _ h),c⟩
def Fb{list:List Int}{n R:Nat}(ho:gp n R list):∀ (l q:List Int) (used aB:List Bool),(∀ x∈l,0<=x/\x<R)->used.length=R->aB.length=n ->
  (∀ i,(fK list l q used aB).2.2.getD i false=true->aB.getD i false=true\/(i:Int)∈(fK list l q used aB).1) /\
  (∀ x∈l,(fK list l q used aB).2.1.getD x.toNat false=true) /\
  (∀ x,(fK list l q used aB).2.1.getD x false=true->used.getD x false=true\/(0<=list.getD x 0->(fK list l q used aB).2.2.getD (list.getD x 0).toNat false=true)) /\
  ∀ (T E:Nat->Prop),(∀ x,E x->0<=list.getD x 0->T (list.getD x 0).toNat)->(∀ x∈l,E x.toNat)->(∀ i,aB.getD i false=true->T i)->(∀ x,used.getD x false=true->E x)->(∀ i∈q,T i.toNat) ->
   (∀ i,(fK list l q used aB).2.2.getD i false=true->T i)/\(∀ x,(fK list l q used aB).2.1.getD x false=true->E x)/\∀ i∈(fK list l q used aB).1,T i.toNat
 |[],q,used,aB,_,_,_=>⟨λ_ h=>.inl h,by simp[fK],λ_ h=>.inl h,λT E _ _ h1 h2 h3=>⟨h1,h2,h3⟩⟩
 |m::r,q,used,aB,hl,hu,hi=>by
  have hx:=hl m Dg;have hr:∀ x∈r,0<=x/\x<R:=λy hy=>hl y (by simp[hy]);have yZ:=ho.get (x:=m.toNat) Ay;have zb:m.toNat<used.length:=Ay;have km:∀ (E:Nat->Prop),E m.toNat->(∀ x,used.getD x false=true->E x)->∀ x,(used.set m.toNat true).getD x false=true->E x:=λE h1 h2 x h=>by
   rw[oG _ _ _ _ _ zb]at h;split at h
   ·rename_i e;subst e;exact h1
   ·exact h2 x h
  rw[fK];split
  ·rename_i hc;have eA:(list.getD m.toNat 0).toNat<aB.length:=Ay;obtain⟨m1,m2,m3⟩:=za (list:=list) r (q++[list.getD m.toNat 0]) (used.set m.toNat true) (aB.set (list.getD m.toNat 0).toNat true);obtain⟨a,b,c,d⟩:=Fb ho r (q++[list.getD m.toNat 0]) (used.set m.toNat true) (aB.set (list.getD m.toNat 0).toNat true) hr (by simpa using hu) (by simpa using hi);refine⟨λi h=>?_,λx hx=>?_,λx h=>?_,λT E rP wN h1 h2 h3=>?_⟩
   ·rcases a i h with h'|h'
    ·rw[oG _ _ _ _ _ eA]at h';split at h'
     ·rename_i e;right;refine m1 _ ?_;rw[e,bj,bm];right;omega
     ·exact .inl h'
    ·exact .inr h'
   ·rcases cD.1 hx with rfl|hx
    ·exact m2 _ (nt _ _ _ _ zb)
    ·exact b x hx
   ·rcases c x h with h'|h'
    ·rw[oG _ _ _ _ _ zb]at h';split at h'
     ·rename_i e;right;subst e;intro _;exact m3 _ (nt _ _ _ _ eA)
     ·exact .inl h'
    ·exact .inr h'
   ·have Oi:T (list.getD m.toNat 0).toNat:=rP _ (wN m Dg) hc.1;refine d T E rP (λx hx=>wN x (by simp[hx])) (λi h=>?_) (km E (wN m Dg) h2) (λi hi'=>?_)
    ·rw[oG _ _ _ _ _ eA]at h;split at h
     ·rename_i e;subst e;exact Oi
     ·exact h1 i h
    ·rcases bj.1 hi' with h|h
     ·exact h3 i h
     ·simp only[bm]at h;subst h;exact Oi
  ·rename_i hc;obtain⟨m1,m2,m3⟩:=za (list:=list) r q (used.set m.toNat true) aB;obtain⟨a,b,c,d⟩:=Fb ho r q (used.set m.toNat true) aB hr (by simpa using hu) hi;refine⟨a,λx hx=>?_,λx h=>?_,λT E rP wN h1 h2 h3=>?_⟩
   ·rcases cD.1 hx with rfl|hx
    ·exact m2 _ (nt _ _ _ _ zb)
    ·exact b x hx
   ·rcases c x h with h'|h'
    ·rw[oG _ _ _ _ _ zb]at h';split at h'
     ·rename_i e;right;subst e;intro h0;refine m3 _ ?_;cases hh:aB.getD (list.getD m.toNat 0).toNat false with
      |true=>rfl
      |false=>exact absurd ⟨h0,hh⟩ hc
     ·exact .inl h'
    ·exact .inr h'
   ·exact d T E rP (λx hx=>wN x (by simp[hx])) h1 (km E (wN m Dg) h2) h3
theorem Oj{left:List (List Int)}{list:List Int}{R:Nat}(hL:eP R left)(ho:gp left.length R list):∀ (f:Nat) (q:List Int) (used aB:List Bool),q.length+ig aB<=f->(∀ x∈q,0<=x/\x<left.length)->used.length=R->aB.length=left.length ->
  (∀ i,i<left.length->aB.getD i false=true->(i:Int)∈q\/∀ x∈left.getD i [],used.getD x.toNat false=true)->(∀ x,used.getD x false=true->0<=list.getD x 0->aB.getD (list.getD x 0).toNat false=true) ->
  ∀ z,ns left list f q used aB=z->z.1.length=R/\z.2.length=left.length/\(∀ i,aB.getD i false=true->z.2.getD i false=true)/\(∀ i,i<left.length->z.2.getD i false=true->∀ x∈left.getD i [],z.1.getD x.toNat false=true)/\(∀ x,z.1.getD x false=true->0<=list.getD x 0->z.2.getD (list.getD x 0).toNat false=true) /\
   ∀ (T E:Nat->Prop),(∀ x,E x->0<=list.getD x 0->T (list.getD x 0).toNat)->(∀ i,T i->∀ x∈left.getD i [],E x.toNat)->(∀ i,aB.getD i false=true->T i)->(∀ x,used.getD x false=true->E x)->(∀ i∈q,T i.toNat)->(∀ i,z.2.getD i false=true->T i)/\∀ x,z.1.getD x false=true->E x
 |0,q,used,aB,hf,hq,hu,hi,h1,h2,z,hz=>by
  have:q=[]:=List.eq_nil_of_length_eq_zero (by omega);subst this;rw[ns]at hz;subst hz;exact⟨hu,hi,fun _ h=>h,fun i hi' h=>(h1 i hi' h).resolve_left (by simp),h2,fun T E _ _ a b _=>⟨a,b⟩⟩
 |f+1,[],used,aB,hf,hq,hu,hi,h1,h2,z,hz=>by
  rw[ns]at hz;subst hz;exact⟨hu,hi,fun _ h=>h,fun i hi' h=>(h1 i hi' h).resolve_left (by simp),h2,fun T E _ _ a b _=>⟨a,b⟩⟩
 |f+1,i::q,used,aB,hf,hq,hu,hi,h1,h2,z,hz=>by
  rw[ns]at hz;have wO:=hq i (by simp);have hl:=(hL.get i.toNat).2;obtain⟨k1,k2,k3,k4⟩:=BT ho (left.getD i.toNat []) q used aB hl (fun x hx=>hq x (by simp[hx])) hu hi;obtain⟨m1,m2,m3⟩:=za (list:=list) (left.getD i.toNat []) q used aB;obtain⟨a,b,c,d⟩:=Fb ho (left.getD i.toNat []) q used aB hl hu hi;generalize hy:fK list (left.getD i.toNat []) q used aB=y at *;try dsimp only at hz
  have eB:q.length+1+ig aB<=f+1:=hf;obtain⟨r1,r2,r3,r4,r5,r6⟩:=Oj hL ho f y.1 y.2.1 y.2.2 (by omega) k1 k2 k3 (fun j hj h=>by
    rcases a j h with h'|h'
    ·rcases h1 j hj h' with kM|kM
     ·rcases List.mem_cons.1 kM with e|kM
      ·right;intro x hx;have:i.toNat=j:=by omega
       rw[<- this]at hx;exact b x hx
      ·exact .inl (m1 _ kM)
     ·exact .inr fun x hx=>m2 _ (kM x hx)
    ·exact .inl h') (fun x h h0=>by
    rcases c x h with h'|h'
    ·exact m3 _ (h2 x h' h0)
    ·exact h' h0) z hz
  refine⟨r1,r2,fun i h=>r3 i (m3 i h),r4,r5,fun T E rP BZ h3 h4 h5=>?_⟩;obtain⟨d1,d2,d3⟩:=d T E rP (fun x hx=>BZ _ (h5 i (by simp)) x hx) h3 h4 (fun j hj=>h5 j (by simp[hj]));exact r6 T E rP BZ d1 d2 d3
def Ok(n:Nat)(p:Nat->Bool):cn (n+1) p=(if p 0=true then 1 else 0)+cn n (λi=>p (i+1)):=by
 induction n with
 |zero=>rw[kN,E6,E6];omega
 |succ n ih=>rw[kN,ih,kN (n:=n)];omega
def Ol{α:Type}(p:α->Bool)(d:α):∀ l:List α,l.countP p=cn l.length (λi=>p (l.getD i d))
 |[]=>rfl
 |a::l=>by
  rw[List.countP_cons,Ol p d l,cK,Ok];simp only[jm,jK];omega
def Fc(l:List Bool):∀ k,(cy l k).length=cn l.length (λi=>l.getD i false):=by
 induction l with
 |nil=>intro k;rfl
 |cons b r ih =>
  intro k;rw[cy,cK,Ok];simp only[jm,jK];split
  ·rw[cK,ih];omega
  ·rw[ih];omega
def Om(l:List Bool):∀ (k i:Nat),l.getD i false=true->((k+i:Nat):Int)∈cy l k:=by
 induction l with
 |nil=>intro k i h;simp at h
 |cons b r ih =>
  intro k i h;rw[cy];cases i with
  |zero =>
   rw[jm]at h;rw[if_pos h];simp
  |succ i =>
   rw[jK]at h;have:=ih (k+1) i h;rw[show k+1+i=k+(i+1) by omega]at this;split
   ·exact List.mem_cons_of_mem _ this
   ·exact this
def U5{number:List Int}{i:Nat}(hi:i<number.length):(ij number).getD i false = !on number i:=by
 rw[ij,on,aw,dm,bc hi,aw,bc hi];simp only[Option.map_some,dK];by_cases h:number[i]<0
 ·rw[decide_eq_true h,decide_eq_false Ay];rfl
 ·rw[decide_eq_false h,decide_eq_true Ay];rfl
structure Reach(left:List (List Int))(R:Nat)(owner number:List Int)(used aB:List Bool):Prop where
 lu:used.length=R
 li:aB.length=left.length
 g1:∀ i,i<left.length->on number i=false->aB.getD i false=true
 g2:∀ i,i<left.length->aB.getD i false=true->∀ x∈left.getD i [],used.getD x.toNat false=true
 g3:∀ x,used.getD x false=true->0<=owner.getD x 0->aB.getD (owner.getD x 0).toNat false=true
 g4:∀ (T E:Nat->Prop),(∀ x,E x->0<=owner.getD x 0->T (owner.getD x 0).toNat)->(∀ i,T i->∀ x∈left.getD i [],E x.toNat)->(∀ i,i<left.length->on number i=false->T i)->(∀ i,aB.getD i false=true->T i)/\∀ x,used.getD x false=true->E x
def reach{left:List (List Int)}{R:Nat}(hL:eP R left){owner number:List Int}(h:rM left R owner number):∀ z,ns left owner left.length (cy (ij number) 0) (ax R false) (ij number)=z->Reach left R owner number z.1 z.2:=by
 intro z hz;have zc:(ij number).length=left.length:=by rw[ij,iS,h.hN]
 have bw:∀ i,(ij number).getD i false=true->i<left.length:=λi hi=>by
  rcases dD i (ij number).length with h'|h'
  ·omega
  ·rw[aw,iF h']at hi;simp at hi
 have mq:∀ i,i<left.length->(ij number).getD i false = !on number i:=λi hi=>U5 (by rw[h.hN];exact hi);obtain⟨r1,r2,r3,r4,r5,r6⟩:=Oj hL h.hO left.length (cy (ij number) 0) (ax R false) (ij number) (by rw[va,zc];exact aM _) (λx hx=>by
  have:=pB _ _ x hx;rw[zc]at this;omega) Dg zc (λi hi hh=>.inl (by have:=Om (ij number) 0 i hh;simpa using this)) (λx hx=>by rw[rL]at hx;simp at hx) z hz
 refine⟨r1,r2,λi hi hh=>r3 i (by rw[mq i hi,hh];rfl),r4,r5,λT E rP BZ h1=>?_⟩;refine r6 T E rP BZ (λi hi=>?_) (λx hx=>by rw[rL]at hx;simp at hx) (λi hi=>?_)
 ·have hl:=bw i hi;rw[mq i hl]at hi;exact h1 i hl (by simpa using hi)
 ·have:=pB _ _ i hi;obtain⟨j,rfl⟩:∃j:Nat,i=j:=⟨i.toNat,Ay⟩;rw[dz];have key:∀ (l:List Bool) (k j:Nat),(j:Int)∈cy l k->l.getD (j-k) false=true:=by
   intro l
   induction l with
   |nil=>intro k j hj;simp[cy]at hj
   |cons b r ih =>
    intro k j hj;rw[cy]at hj;have zd:(j:Int)∈cy r (k+1)->(b::r).getD (j-k) false=true:=λhj=>by
     have hr:=pB _ _ _ hj;have:=ih _ _ hj;rw[show j-k=(j-(k+1))+1 by omega,jK];exact this
    split at hj
    ·rename_i hb;rcases cD.1 hj with e|hj
     ·rw[show j-k=0 by omega,jm];exact hb
     ·exact zd hj
    ·exact zd hj
  have hk:=key _ _ _ hi;rw[Nat.sub_zero]at hk;have hl:=bw j hk;rw[mq j hl]at hk;exact h1 j hl (by simpa using hk)
noncomputable def pb(D:Nat->Prop)(x:Nat):Bool:=@decide (D x) (Classical.propDecidable _)
def jc{D:Nat->Prop}{x:Nat}:pb D x=true↔D x:=by
 unfold pb;exact @decide_eq_true_iff _ (Classical.propDecidable _)
section
variable {left:List (List Int)} {R:Nat} {owner number:List Int} {used aB:List Bool} {D:Nat->Prop}
def Reach.U6(hL:eP R left)(h:Inv left R (-1) left.length owner number D)(hr:Reach left R owner number used aB):∀ x,used.getD x false=true->x<R/\0<=owner.getD x 0:=by
 intro x hx;obtain⟨_,b⟩:=hr.g4 (λi=>∀ y∈left.getD i [],D y.toNat) (λx=>x<R/\D x) (λx hx h0=>(h.cl x hx.1 hx.2).2) (λi hi y hy=>⟨by have:=(hL.get i).2 y hy;omega,hi y hy⟩) (λi hi h0=>h.dead i hi hi Ay (by simpa [on] using h0));obtain⟨c,d⟩:=b x hx;exact⟨c,(h.cl x c d).1⟩
def Reach.count(hL:eP R left)(h:Inv left R (-1) left.length owner number D)(hr:Reach left R owner number used aB):
  cn left.length (λi=>aB.getD i false)=cn left.length (λi=>!on number i)+cn R (λx=>used.getD x false):=by
 rw[qD _ _ (on number)];have e1:cn left.length (λi=>aB.getD i false&&!on number i)=cn left.length (λi=>!on number i):=qC λi hi=>by
  cases ho:on number i with
  |true=>simp
  |false=>rw[hr.g1 i hi ho];rfl
 have h1:=y9 h.ok (T:=λi=>aB.getD i false) (D:=λx=>used.getD x false) (λi hi hT=>hr.g2 i hi hT);have h2:cn R (λx=>used.getD x false&&decide (0<=owner.getD x 0)&&aB.getD (owner.getD x 0).toNat false)<=cn R (λx=>used.getD x false):=rO λi _ hi=>by simp only[bd]at hi;exact hi.1.1
 have h3:=BY h.ok (T:=λi=>aB.getD i false) (D:=λx=>used.getD x false) (λx hx hu=>by
  have:=(hr.U6 hL h x hu).2;exact⟨this,hr.g3 x hu this⟩)
 omega
def Reach.none(hr:Reach left R owner number used aB)(h:∀ i,i<left.length->on number i=true):∀ i,aB.getD i false=false:=by
 obtain⟨a,_⟩:=hr.g4 (λ_=>False) (λ_=>False) (λ_ h _=>h) (λ_ h=>h.elim) (λi hi h0=>by rw[h i hi]at h0;simp at h0);intro i;cases hh:aB.getD i false with
 |false=>rfl
 |true=>exact(a i hh).elim
def Reach.group(hL:eP R left)(h:Inv left R (-1) left.length owner number D)(hr:Reach left R owner number used aB)(hs:size left R (-1)=cn left.length (on number)){w:Nat}(hw:w<left.length):
  aB.getD w false=decide (size left R w=size left R (-1)):=by
 obtain⟨⟨Dw,hW⟩,ze⟩:=wM hL (w:Int);generalize ve left R w=mw at hW ze;obtain⟨ow,nw⟩:=mw;dsimp only at hW ze;have B0:nw.getD w 0 = -1:=hW.rest w hw (.inr rfl);have hc:=hr.count hL h;have n1:=Oe left.length (on number);have n2:=Oe left.length (on nw);have uw:cn left.length (λi=>!on nw i)=cn left.length (λi=>decide (i≠w)&&!on nw i)+1:=by
  refine E8 w hw (λi hi bI=>by simp[bI]) ?_ Dg;simp only[on,B0];rfl
 generalize hU:cn left.length (λi=>!on number i)=U at *;generalize On:cn left.length (λi=>decide (i≠w)&&!on nw i)=Uw at *;cases eO:aB.getD w false with
 |false =>
  have k1:=y9 hW.ok (T:=λi=>aB.getD i false) (D:=λx=>used.getD x false) (λi hi hT=>hr.g2 i hi hT);have k2:cn R (λx=>used.getD x false&&decide (0<=ow.getD x 0)&&aB.getD (ow.getD x 0).toNat false)<=cn R (λx=>used.getD x false):=rO λi _ hi=>by simp only[bd]at hi;exact hi.1.1
  have k3:=qD left.length (λi=>aB.getD i false) (on nw);have k4:cn left.length (λi=>aB.getD i false&&!on nw i)<=Uw:=by
   rw[<- On];refine rO λi hi hp=>?_;simp only[bd]at hp ⊢;refine⟨?_,hp.2⟩;rw[decide_eq_true_eq];intro e;subst e;simp_all
  symm;rw[decide_eq_false_iff_not];omega
 |true =>
  symm;rw[decide_eq_true_eq];have a1:=BY h.ok (T:=λi=>pb (λi=>∀ y∈left.getD i [],D y.toNat) i) (D:=pb D) (λx hx hD=>by
   obtain⟨c1,c2⟩:=h.cl x hx (jc.1 hD);exact⟨c1,jc.2 c2⟩)
  have a2:=y9 hW.ok (T:=λi=>pb (λi=>∀ y∈left.getD i [],D y.toNat) i) (D:=pb D) (λi hi hT y hy=>jc.2 (jc.1 hT y hy));have a3:cn R (λx=>pb D x&&decide (0<=ow.getD x 0)&&pb (λi=>∀ y∈left.getD i [],D y.toNat) (ow.getD x 0).toNat)<=cn R (pb D):=rO λi _ hi=>by simp only[bd]at hi;exact hi.1.1
  have a4:=qD left.length (λi=>pb (λi=>∀ y∈left.getD i [],D y.toNat) i) (on number);have a5:=qD left.length (λi=>pb (λi=>∀ y∈left.getD i [],D y.toNat) i) (on nw);have a6:cn left.length (λi=>pb (λi=>∀ y∈left.getD i [],D y.toNat) i&&!on number i)=U:=by
   rw[<- hU];refine qC λi hi=>?_;cases ho:on number i with
   |true=>simp
   |false =>
    have:pb (λi=>∀ y∈left.getD i [],D y.toNat) i=true:=jc.2 (h.dead i hi hi Ay (by simpa [on] using ho));rw[this];rfl
  have a7:cn left.length (λi=>pb (λi=>∀ y∈left.getD i [],D y.toNat) i&&!on nw i)<=Uw+1:=by
   rw[<- uw];refine rO λi hi hp=>?_;simp only[bd]at hp;exact hp.2
  have b0:∀ x,x<R->Dw x->ow.getD x 0≠w:=λx hx hD e=>by
   have h0:=(hW.cl x hx hD).1;have:=hW.ok.bwd x hx h0;rw[e,dz,B0]at this;omega
  let Tw:Nat->Prop:=λi=>i≠w/\∀ y∈left.getD i [],Dw y.toNat
  have b1:=BY hW.ok (T:=pb Tw) (D:=pb Dw) (λx hx hD=>by
   obtain⟨c1,c2⟩:=hW.cl x hx (jc.1 hD);have bI:=b0 x hx (jc.1 hD);exact⟨c1,jc.2 ⟨Ay,c2⟩⟩)
  have b2:=y9 h.ok (T:=pb Tw) (D:=pb Dw) (λi hi hT y hy=>jc.2 ((jc.1 hT).2 y hy));have b3:cn R (λx=>pb Dw x&&decide (0<=owner.getD x 0)&&pb Tw (owner.getD x 0).toNat)<=cn R (pb Dw):=rO λi _ hi=>by simp only[bd]at hi;exact hi.1.1
  have b4:=qD left.length (pb Tw) (on number);have b5:=qD left.length (pb Tw) (on nw);have b6:cn left.length (λi=>pb Tw i&&!on nw i)=Uw:=by
   rw[<- On];refine qC λi hi=>?_;cases ho:on nw i with
   |true=>simp
   |false =>
    by_cases B1:i=w
    ·have:pb Tw i=false:=by
      cases hp:pb Tw i with
      |false=>rfl
      |true=>exact absurd B1 (jc.1 hp).1
     rw[this];simp[B1]
    ·have:pb Tw i=true:=jc.2 ⟨B1,hW.dead i hi hi Ay (by simpa [on] using ho)⟩;rw[this];simp[B1]
  have b7:cn left.length (λi=>pb Tw i&&!on number i)<=U:=by
   rw[<- hU];refine rO λi hi hp=>?_;simp only[bd]at hp;exact hp.2
  by_cases bw:Uw<U
  ·omega
  ·exfalso;have c1:=qD left.length (λi=>!on number i) (pb Tw);have c2:cn left.length (λi=>!on number i&&pb Tw i)=cn left.length (λi=>pb Tw i&&!on number i):=qC λi _=>Bool.and_comm _ _;have c3:cn left.length (λi=>!on number i&&!pb Tw i)=0:=Ay;have c4:=qD R (pb Dw) (λx=>decide (0<=owner.getD x 0)&&pb Tw (owner.getD x 0).toNat);have c5:cn R (λx=>pb Dw x&&(decide (0<=owner.getD x 0)&&pb Tw (owner.getD x 0).toNat))=cn R (λx=>pb Dw x&&decide (0<=owner.getD x 0)&&pb Tw (owner.getD x 0).toNat):=qC λi _=>(Bool.and_assoc _ _ _).symm;have c6:cn R (λx=>pb Dw x&&!(decide (0<=owner.getD x 0)&&pb Tw (owner.getD x 0).toNat))=0:=Ay;have c7:=E7 c3;have c8:=E7 c6;obtain⟨d,_⟩:=hr.g4 Tw (λx=>x<R/\Dw x) (λx hx h0=>by
    have:=c8 x hx.1;rw[jc.2 hx.2]at this;simp only[iD,Hi,bd]at this;exact jc.1 this.2) (λi hi y hy=>⟨by have:=(hL.get i).2 y hy;omega,hi.2 y hy⟩) (λi hi h0=>by
    have:=c7 i hi;rw[h0]at this;simp only[Bool.not_false,iD,Hi]at this;exact jc.1 this)
   exact(d w eO).1 rfl
end
def Oo:∀ (l:List Int) (aB:List Bool) (x:Nat),(∀ y∈l,0<=y/\y.toNat<aB.length)->((oF l aB).getD x false=true↔aB.getD x false=true\/(x:Int)∈l)
 |[],aB,x,_=>by simp[oF]
 |y::r,aB,x,h=>by
  have hy:=h y Dg;rw[oF,Oo r _ x (λz hz=>by have:=h z (by simp[hz]);simpa using this),oG _ _ _ _ _ hy.2,cD];split
  ·rename_i e;have:(x:Int)=y:=Ay;simp[this]
  ·rename_i e;have:(x:Int)≠y:=Ay;simp[this]
def B2{left:List (List Int)}{R n:Nat}(hL:eP R left){aB:List Bool}(hi:aB.length=left.length)(hg:∀ w,w<left.length->aB.getD w false=decide (size left R w=n)):∀ (c i:Nat) (g:List Int) (m:List Bool),i+c=left.length->m.length=R ->
  (mL left R n c i g m).1=g++cy (aB.drop i) i/\(mL left R n c i g m).2.length=R/\∀ x,(mL left R n c i g m).2.getD x false=true↔m.getD x false=true\/∃ j,i<=j/\j<left.length/\aB.getD j false=true/\(x:Int)∈left.getD j []
 |0,i,g,m,hc,hm=>by
  rw[mL,List.drop_eq_nil_of_le Ay,cy,List.append_nil];refine⟨rfl,hm,λx=>?_⟩;constructor
  ·exact .inl
  ·rintro(h|⟨j,h1,h2,_⟩)
   ·exact h
   ·omega
 |c+1,i,g,m,hc,hm=>by
  have wP:=hg i Ay;rw[mL,cF aB i false Ay,cy];split
  ·rename_i hs;rw[decide_eq_true hs]at wP;obtain⟨a,b,d⟩:=B2 hL hi hg c (i+1) (g++[(i:Int)]) (oF (left.getD i []) m) Ay (by rw[N'];exact hm);rw[if_pos wP];refine⟨by rw[a];simp,b,λx=>?_⟩;rw[d x,Oo _ _ _ (λy hy=>by have:=(hL.get i).2 y hy;omega)];constructor
   ·rintro((h|h)|⟨j,h1,h2,h3,h4⟩)
    ·exact .inl h
    ·exact .inr ⟨i,aM _,Ay,wP,h⟩
    ·exact .inr ⟨j,Ay,h2,h3,h4⟩
   ·rintro(h|⟨j,h1,h2,h3,h4⟩)
    ·exact .inl (.inl h)
    ·by_cases dI:j=i
     ·subst dI;exact .inl (.inr h4)
     ·exact .inr ⟨j,Ay,h2,h3,h4⟩
  ·rename_i hs;rw[decide_eq_false hs]at wP;obtain⟨a,b,d⟩:=B2 hL hi hg c (i+1) g m Ay hm;rw[if_neg (by simp_all)];refine⟨a,b,λx=>?_⟩;rw[d x];constructor
   ·rintro(h|⟨j,h1,h2,h3,h4⟩)
    ·exact .inl h
    ·exact .inr ⟨j,Ay,h2,h3,h4⟩
   ·rintro(h|⟨j,h1,h2,h3,h4⟩)
    ·exact .inl h
    ·by_cases dI:j=i
     ·subst dI;rw[wP]at h3;simp at h3
     ·exact .inr ⟨j,Ay,h2,h3,h4⟩
def U7{a b:List Bool}(hl:a.length=b.length)(h:∀ x,a.getD x false=true↔b.getD x false=true):a=b:=by
 refine Ax hl λi h1 h2=>?_;have:=h i;rw[aw,bc h1,aw,bc h2]at this;simp only[dK]at this;cases ha:a[i]<;>cases hb:b[i]<;>simp_all
def Oq{left:List (List Int)}{R:Nat}(hL:eP R left):ca left R=wJ left R:=by
 obtain⟨⟨D,h⟩,hs⟩:=wM hL (-1);rw[Fa]at h hs;have hr:=reach hL h.ok _ rfl;unfold ca wJ;dsimp only;generalize ns left (fX left R).1 left.length (cy (ij (fX left R).2) 0) (ax R false) (ij (fX left R).2)=z at hr;obtain⟨a,b,c⟩:=B2 (n:=size left R (-1)) hL hr.li (λw hw=>hr.group hL h hs hw) left.length 0 [] (ax R false) Ay Dg;rw[Av,dT]at a;rw[a];have:z.1=(mL left R (size left R (-1)) left.length 0 [] (ax R false)).2:=by
  refine U7 (by rw[hr.lu,b]) λx=>?_;rw[c x,rL];constructor
  ·intro hx;right;obtain⟨_,e⟩:=hr.g4 (λi=>z.2.getD i false=true) (λx=>∃ j,0<=j/\j<left.length/\z.2.getD j false=true/\(x:Int)∈left.getD j []) (λx ⟨j,_,h1,h2,h3⟩ h0=>by
     have:=hr.g2 j h1 h2 _ h3;rw[dz]at this;exact hr.g3 x this h0) (λi hi y hy=>by
     have pd:i<left.length:=by
      rcases dD i left.length with h'|h'
      ·exact h'
      ·rw[aw,iF h']at hy;simp at hy
     have:=(hL.get i).2 y hy;exact⟨i,aN _,pd,hi,by rw[oR this.1];exact hy⟩) (λi hi h0=>hr.g1 i hi h0)
   exact e x hx
  ·rintro(h|⟨j,_,h1,h2,h3⟩)
   ·simp at h
   ·have:=hr.g2 j h1 h2 _ h3;rwa [dz]at this
 rw[this]
def U8(left:List (List Int))(right:Int):jb left right=vb left right:=by
 unfold jb vb;split
 ·rfl
 ·rename_i h;rw[Oq (yY Ay).1]
def counts{left:List (List Int)}{R:Nat}(hL:eP R left):(fX left R).2.length=left.length/\((fX left R).2.countP (λx=>decide (x<0)))+(ca left R).2.length=(ca left R).1.length/\(0<(fX left R).2.countP (λx=>decide (x<0))\/(ca left R).1=[]):=by
 obtain⟨⟨D,h⟩,hs⟩:=wM hL (-1);rw[Fa]at h hs;have hr:=reach hL h.ok _ rfl;have hc:=hr.count hL h;have hn:=h.ok.hN;have e:(fX left R).2.countP (λx=>decide (x<0))=cn left.length (λi=>!on (fX left R).2 i):=by
  rw[Ol _ 0,hn];refine qC λi hi=>?_;rw[on];by_cases h:(fX left R).2.getD i 0<0
  ·rw[decide_eq_true h,decide_eq_false Ay];rfl
  ·rw[decide_eq_false h,decide_eq_true Ay];rfl
 refine⟨hn,?_,?_⟩
 ·unfold ca;dsimp only;rw[Fc,Fc,hr.lu,hr.li,e];omega
 ·by_cases h0:cn left.length (λi=>!on (fX left R).2 i)=0
  ·right;have jX:=hr.none (λi hi=>by have:=E7 h0 i hi;simpa using this);unfold ca;dsimp only;refine List.eq_nil_of_length_eq_zero ?_;rw[Fc];exact Od λi _=>jX i
  ·left;omega
def U9{left:List (List Int)}{R:Nat}(hL:eP R left){w:Int}{ow nw:List Int}(h:rM left R ow nw)(hw:∀ j,j<left.length->(j:Int)=w->nw.getD j 0<0):cn left.length (on nw)<=size left R w:=by
 obtain⟨⟨D,hI⟩,hs⟩:=wM hL w;generalize ve left R w=mw at hI hs;obtain⟨O,N⟩:=mw;dsimp only at hI hs;have b0:∀ x,x<R->D x->O.getD x 0≠w:=λx hx hD e=>by
  have h0:=(hI.cl x hx hD).1;have hb:=hI.ok.bwd x hx h0;have bw:=(hI.ok.hO.get hx).2;have:=hI.rest (O.getD x 0).toNat Ay (.inr Ay);rw[hb]at this;omega
 let T:Nat->Prop:=λi=>(i:Int)≠w/\∀ y∈left.getD i [],D y.toNat
 have a1:=BY hI.ok (T:=pb T) (D:=pb D) (λx hx hD=>by
  obtain⟨c1,c2⟩:=hI.cl x hx (jc.1 hD);have:=b0 x hx (jc.1 hD);exact⟨c1,jc.2 ⟨Ay,c2⟩⟩)
 have a2:=y9 h (T:=pb T) (D:=pb D) (λi hi hT y hy=>jc.2 ((jc.1 hT).2 y hy));have a3:cn R (λx=>pb D x&&decide (0<=ow.getD x 0)&&pb T (ow.getD x 0).toNat)<=cn R (pb D):=rO λi _ hi=>by simp only[bd]at hi;exact hi.1.1
 have a4:=qD left.length (on nw) (pb T);have a5:=qD left.length (on N) (pb T);have a6:cn left.length (λi=>on nw i&&pb T i)=cn left.length (λi=>pb T i&&on nw i):=qC λi _=>Bool.and_comm _ _;have a7:cn left.length (λi=>on N i&&pb T i)=cn left.length (λi=>pb T i&&on N i):=qC λi _=>Bool.and_comm _ _;have a8:cn left.length (λi=>on nw i&&!pb T i)<=cn left.length (λi=>on N i&&!pb T i):=rO λi hi hp=>by
  simp only[bd,g7]at hp ⊢;refine⟨?_,hp.2⟩;cases ho:on N i with
  |true=>rfl
  |false =>
   exfalso;have bI:(i:Int)≠w:=λe=>by
    have:=hw i hi e;have h2:=hp.1;rw[on,decide_eq_true_eq]at h2;omega
   have:pb T i=true:=jc.2 ⟨bI,hI.dead i hi hi bI (by simpa [on] using ho)⟩;rw[this]at hp;simp at hp
 omega
def mN(f:Nat->Nat)(N:List Int):List Int:=N.map λn=>if n<0 then -1 else(f n.toNat:Int)
def rQ(n R':Nat)(N:List Int):List Int:=(bD R').map λx:Nat=>match (bD n).find? (λj=>decide (N.getD j 0=(x:Int))) with|some j=>(j:Int)|none=>-1
def Ot{f:Nat->Nat}{N:List Int}{j:Nat}(h:j<N.length):(mN f N).getD j 0=if N.getD j 0<0 then -1 else(f (N.getD j 0).toNat:Int):=by
 rw[mN,aw,dm,bc h,aw,bc h];rfl
def Fe{n R':Nat}{N:List Int}{x:Nat}(hx:x<R'):(∃ j,j<n/\N.getD j 0=x/\(rQ n R' N).getD x 0=(j:Nat))\/((rQ n R' N).getD x 0 = -1/\∀ j,j<n->N.getD j 0≠x):=by
 have e:(rQ n R' N).getD x 0=match (bD n).find? (λj=>decide (N.getD j 0=(x:Int))) with|some j=>(j:Int)|none=>-1:=by
  rw[rQ,aw,dm,List.getElem?_range hx];rfl
 cases hf:(bD n).find? (λj=>decide (N.getD j 0=(x:Int))) with
 |some j =>
  rw[hf]at e;have h1:=List.find?_some hf;have h2:=List.mem_of_find?_eq_some hf;rw[decide_eq_true_eq]at h1;exact .inl ⟨j,kA.1 h2,h1,e⟩
 |none =>
  rw[hf]at e;rw[List.find?_eq_none]at hf;exact .inr ⟨e,λj hj he=>absurd (decide_eq_true he) (hf j (kA.2 hj))⟩
structure zf(left l8:List (List Int))(R':Nat)(f:Nat->Nat):Prop where
 len:l8.length=left.length
 to:∀ i,i<left.length->∀ x:Nat,(x:Int)∈left.getD i []->f x<R'/\(f x:Int)∈l8.getD i []
 inj:∀ i j,i<left.length->j<left.length->∀ x y:Nat,(x:Int)∈left.getD i []->(y:Int)∈left.getD j []->f x=f y->x=y
def rM.aU{left l8:List (List Int)}{R R':Nat}{f:Nat->Nat}{owner number:List Int}(h:rM left R owner number)(hf:zf left l8 R' f):
  rM l8 R' (rQ left.length R' (mN f number)) (mN f number)/\∀ i,i<left.length->on (mN f number) i=on number i:=by
 have hl:=hf.len;have hg:∀ j,j<left.length->(mN f number).getD j 0=if number.getD j 0<0 then -1 else(f (number.getD j 0).toNat:Int):=λj hj=>Ot (by rw[h.hN];exact hj);have Ou:∀ j,j<left.length->0<=(mN f number).getD j 0->0<=number.getD j 0/\(mN f number).getD j 0=f (number.getD j 0).toNat/\(((number.getD j 0).toNat:Nat):Int)∈left.getD j []/\owner.getD (number.getD j 0).toNat 0=j:=λj hj h0=>by
  rw[hg j hj]at h0 ⊢;split at h0
  ·omega
  ·rename_i hn;obtain⟨a,b,c⟩:=h.fwd j hj Ay;rw[if_neg hn];exact⟨Ay,rfl,by rw[oR Ay];exact c,b⟩
 refine⟨⟨⟨by simp[rQ],λo ho=>?_⟩,by rw[mN,iS,h.hN,hl],λj hj=>?_,λj hj h0=>?_,λx hx h0=>?_⟩,λi hi=>?_⟩
 ·obtain⟨x,hx,rfl⟩:=List.mem_iff_getElem.1 ho;have cd:x<R':=by simpa [rQ] using hx
  have e:(rQ left.length R' (mN f number))[x]=(rQ left.length R' (mN f number)).getD x 0:=by rw[aw,bc hx];rfl
  rw[e];rcases Fe (n:=left.length) (N:=mN f number) cd with⟨j,h1,h2,h3⟩|⟨h3,_⟩<;>rw[h3]<;>omega
 ·rw[hg j Ay];split<;>omega
 ·obtain⟨a,b,c,d⟩:=Ou j Ay h0;obtain⟨p,q⟩:=hf.to j Ay _ c;rw[b,dz];refine⟨Ay,?_,q⟩;rcases Fe (n:=left.length) (N:=mN f number) p with⟨k,h1,h2,h3⟩|⟨_,h3⟩
  ·rw[h3];obtain⟨a',b',c',d'⟩:=Ou k h1 Ay;have:=hf.inj k j h1 Ay _ _ c' c Ay;rw[this,d]at d';omega
  ·exact absurd b (h3 j Ay)
 ·rcases Fe (n:=left.length) (N:=mN f number) hx with⟨k,h1,h2,h3⟩|⟨h3,_⟩
  ·rw[h3,dz];exact h2
  ·omega
 ·rw[on,on,hg i hi];split
  ·rw[decide_eq_false Ay,decide_eq_false Ay]
  ·rw[decide_eq_true Ay,decide_eq_true Ay]
def Ov{left l8:List (List Int)}{R R':Nat}{f:Nat->Nat}(hL:eP R left)(nj:eP R' l8)(hf:zf left l8 R' f)(w:Int):size left R w<=size l8 R' w:=by
 obtain⟨⟨D,hI⟩,hs⟩:=wM hL w;obtain⟨h1,h2⟩:=hI.ok.aU hf;have:=U9 nj h1 (w:=w) (λj hj e=>by
  rw[hf.len]at hj;rw[Ot (by rw[hI.ok.hN];exact hj),hI.rest j hj (.inr e)];simp)
 rw[hf.len,qC h2]at this;omega
def vf{left:List (List Int)}{R:Nat}(hL:eP R left):∃aB m:List Bool,aB.length=left.length/\m.length=R/\ca left R=(cy aB 0,cy m 0) /\
  (∀ w,w<left.length->aB.getD w false=decide (size left R w=size left R (-1)))/\∀ x,m.getD x false=true↔∃ j,j<left.length/\aB.getD j false=true/\(x:Int)∈left.getD j []:=by
 obtain⟨⟨D,h⟩,hs⟩:=wM hL (-1);rw[Fa]at h hs;have hr:=reach hL h.ok _ rfl;rw[Oq hL];generalize ns left (fX left R).1 left.length (cy (ij (fX left R).2) 0) (ax R false) (ij (fX left R).2)=z at hr;obtain⟨a,b,c⟩:=B2 (n:=size left R (-1)) hL hr.li (λw hw=>hr.group hL h hs hw) left.length 0 [] (ax R false) Ay Dg;rw[Av,dT]at a;refine⟨z.2,_,hr.li,b,by rw[wJ,a],λw hw=>hr.group hL h hs hw,λx=>?_⟩;rw[c x,rL];constructor
 ·rintro(h|⟨j,_,h⟩)
  ·simp at h
  ·exact⟨j,h⟩
 ·rintro⟨j,h⟩;exact .inr ⟨j,aN _,h⟩
def U'{left:List (List Int)}{R:Nat}(hL:eP R left)(h:(ca left R).1≠[]):(ca left R).2.length<(ca left R).1.length:=by
 obtain⟨_,a,b⟩:=counts hL;rcases b with b|b
 ·omega
 ·exact absurd b h
def Ow{l:List Bool}{x:Nat}:(x:Int)∈cy l 0↔l.getD x false=true:=by
 constructor
 ·intro h;have key:∀ (l:List Bool) (k j:Nat),(j:Int)∈cy l k->l.getD (j-k) false=true:=by
   intro l
   induction l with
   |nil=>intro k j hj;simp[cy]at hj
   |cons b r ih =>
    intro k j hj;rw[cy]at hj;have zd:(j:Int)∈cy r (k+1)->(b::r).getD (j-k) false=true:=λhj=>by
     have hr:=pB _ _ _ hj;have:=ih _ _ hj;rw[show j-k=(j-(k+1))+1 by omega,jK];exact this
    split at hj
    ·rename_i hb;rcases cD.1 hj with e|hj
     ·rw[show j-k=0 by omega,jm];exact hb
     ·exact zd hj
    ·exact zd hj
  exact key l 0 x h
 ·intro h;have:=Om l 0 x h;simpa using this
def Ox(l:List Bool):∀ k,(cy l k).Pairwise (· < ·):=by
 induction l with
 |nil=>intro k;exact .nil
 |cons b r ih =>
  intro k;rw[cy];split
  ·exact List.pairwise_cons.2 ⟨λx hx=>by have:=pB r (k+1) x hx;omega,ih (k+1)⟩
  ·exact ih (k+1)
def Ve{left l8:List (List Int)}{R R':Nat}{f g:Nat->Nat}(hL:eP R left)(nj:eP R' l8)(hf:zf left l8 R' f)(hg:zf l8 left R g):(ca left R).1=(ca l8 R').1:=by
 have hs:∀ w,size left R w=size l8 R' w:=λw=>Nat.le_antisymm (Ov hL nj hf w) (Ov nj hL hg w);obtain⟨aB,m,h1,h2,h3,h4,h5⟩:=vf hL;obtain⟨Vf,m',pe,Oy,E5,Vg,Z7⟩:=vf nj;rw[h3,E5];have:aB=Vf:=by
  refine Ax (by rw[h1,pe,hf.len]) λi a b=>?_;have c:=h4 i Ay;have d:=Vg i Ay;rw[hs,hs,<- d,aw,bc a,aw,bc b]at c;exact c
 rw[this]
end T

