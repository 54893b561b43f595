import Derived.Test.YtodilglobhifaaaDoorX07
set_option linter.all false
set_option maxHeartbeats 0
set_option maxRecDepth 20000
open List renaming getD_eq_getElem?_getD→an,getElem?_eq_getElem→aN,getElem_mem→lF,replicate→aw,getElem?_eq_none→gI,length_set→bm,mem_or_eq_of_mem_set→qQ,eq_of_mem_replicate→uE,any_eq_true→ko,mem_cons→cI,length_cons→b8,length_nil→eZ,replicate_succ→xg,set_append_right→sR,set_cons_zero→sI,take_add_one→Ec,mem_append→bn,mem_singleton→bB,getElem?_set→bM,getElem?_replicate→Ae,range→bj,getD_cons_zero→gH,getD_cons_succ→fJ,getElem?_map→bR,length_map→cU,drop_zero→w8,nil_append→g9,mem_range→jM
open Nat renaming lt_or_ge→cZ,strongRecOn→uD,le_refl→aH,sub_self→kn,zero_le→bk
open Bool renaming and_eq_true→bb,not_eq_true'→fU,true_and→fH,not_eq_false'→D7
open Int renaming mul_nonneg→xf,toNat_natCast→bY,toNat_of_nonneg→iS
open Option renaming getD_some→dg
open Go Go.Am
namespace T
def Rc:=U3 @cL @fL @q9 @E9 @E' @Fa @sW
def rL(x:Int):Prop:=-9223372036854775808<=x/\x<=9223372036854775807
def p9(n m:Int):Int:=if m<1 then 0 else n%m
def PD(n m:Int)(hm:0<m):0<=p9 n m/\p9 n m<m:=by
 unfold p9;rw[if_neg z8];exact⟨Int.emod_nonneg _ z8,Int.emod_lt_of_pos _ z8⟩
def BL(n m:Int)(hm:0<m):(n.tmod m<0->n%m=n.tmod m+m)/\(0<=n.tmod m->n%m=n.tmod m)/\-m<n.tmod m/\n.tmod m<m:=by
 have h1:=Int.emod_nonneg n (show m≠0 by omega);have h2:=Int.emod_lt_of_pos n hm;rcases Int.lt_or_le n 0 with hn|hn
 ·have h3:n.tmod m = -((-n)%m):=by
   have:=Int.neg_tmod (a:=-n) (b:=m);rw[Int.neg_neg]at this;rw[this,Int.tmod_eq_emod_of_nonneg z8]
  have h4:=Int.emod_nonneg (-n) (show m≠0 by omega);have h5:=Int.emod_lt_of_pos (-n) hm;have h6:=Int.mul_ediv_add_emod n m;have h7:=Int.mul_ediv_add_emod (-n) m;have key:(n%m=0/\(-n)%m=0)\/n%m=m-(-n)%m:=by
   by_cases hz:(-n)%m=0
   ·left;have hd:m ∣ -n:=Int.dvd_of_emod_eq_zero hz;have kZ:m ∣ n:=(Int.dvd_neg).1 hd;exact⟨Int.emod_eq_zero_of_dvd kZ,hz⟩
   ·right;have:n=m*(-((-n)/m)-1)+(m-(-n)%m):=by
     have : -n=m*((-n)/m)+(-n)%m:=h7.symm;rw[Int.mul_sub,Int.mul_neg];omega
    rw[this,Int.mul_add_emod_self_left];rw[<- this];exact Int.emod_eq_of_lt z8 z8
  rw[h3];refine⟨?_,?_,?_,?_⟩<;>omega
 ·rw[Int.tmod_eq_emod_of_nonneg hn];refine⟨?_,?_,?_,?_⟩<;>omega
def fN(L:List Int)(at':Nat)(n:Int):Int:=if at' >= L.length then 0 else p9 (L.getD at' 0) n
def iw(L:List Int)(at':Nat):Nat:=if at' >= L.length then at' else at'+1
def tF{L:List Int}{k:Nat}(h:k<=L.length):iw L k<=L.length:=by unfold iw;split<;>omega
def yF{L:List Int}{k:Nat}{n:Int}(h:0<n):0<=fN L k n/\fN L k n<n:=by
 unfold fN;split
 ·omega
 ·exact PD _ _ h
def aO{α:Type}{l:List α}{i:Nat}{d:α}(h:i<l.length):l.getD i d∈l:=by
 rw[an,aN h];exact lF h
def fB(a b:Int):Int:=min (a+b) 1099511627776
def iy(n:Int):Bool:=decide ((1<=n/\n<=1048576)\/n=1099511627776)
def gX(R n:Int):Bool:=decide (0<=n/\n<R)
def gn(m:ae)(c o:Int):Bool:=decide (0<=c/\c<m.cls.length/\0<=o/\o<(m.cls.getD c.toNat default).length)
def eO(a b:Int):Int:=if a<b then -1 else if b<a then 1 else 0
def j8:List Int->Int
 |[]=>0
 |x::r=>if x≠0 then x else j8 r
def rN(most gd sum:Int):Int:=if sum<=most then 0 else min ((sum-most)*gd) 1099511627776
def kG{α:Type}[Inhabited α](l:List α)(k:Nat):Option α:=if k=0 then none else some (l.getD (k-1) default)
def ee(R:Int):Option (Int×Int)->List (Int×Int)->Bool
 |_,[]=>true
 |q,c::r=>(gX R c.1&&iy c.2&&(match q with|none=>true|some q=>decide (q.1<c.1)))&&ee R (some c) r
def lY(a b:Pr):Int:=j8 [eO a.cM b.cM,eO a.fst b.fst,eO a.snd b.snd]
def jG(n:Int):Bool:=decide (n≠0)&&!iy n
def eP(m:ae)(p:Pr):Bool:=gX m.rules p.cM&&decide (0<=p.fst/\p.fst<p.snd/\p.snd<m.cls.length/\(p.dw.length:Int)=(m.cls.getD p.fst.toNat default).length*(m.cls.getD p.snd.toNat default).length)&&!p.dw.any jG
def fC(m:ae):Option Pr->List Pr->Bool
 |_,[]=>true
 |q,p::r=>(eP m p&&(match q with|none=>true|some q=>decide (lY q p<0)))&&fC m (some p) r
def mQ(a b:Ld):Int:=j8 [eO a.cls b.cls,eO a.opt b.opt]
def fO(m:ae):Option Ld->List Ld->Bool
 |_,[]=>true
 |q,x::r=>(gn m x.cls x.opt&&decide (1<=x.wt/\x.wt<=1000)&&(match q with|none=>true|some q=>decide (mQ q x<0)))&&fO m (some x) r
def gY(m:ae)(c:Ct):Bool:=gX m.rules c.cM&&decide (0<=c.most/\c.most<=1048576)&&iy c.gd&&fO m none c.ei
def lZ(m:ae):Bool:=decide (24<m.cls.length\/m.cls.any (λl=>decide (24<l.length))=true\/4000<m.aj.length\/800<m.cz.length\/m.rules<0\/56<m.rules)
def mR(m:ae):Int:=if lZ m=true then 2 else if(m.cls.any λl=>l.any λo=>!ee m.rules none o.ch)=true then 1 else if fC m none m.aj=false then 1 else if(m.cz.any λc=>!gY m c)=true then 1 else 0
def oU{α:Type}[Inhabited α](l:List α)(k:Nat):kG l (k+1)=some (l.getD k default):=by simp[kG]
def Jk{R:Int}{l r:List (Int×Int)}{k:Nat}{c:Int×Int}:ee R (kG l k) (c::r)=((gX R c.1&&iy c.2&&(decide (k=0)||decide ((l.getD (k-1) default).1<c.1)))&&ee R (some c) r):=by
 by_cases h:k=0<;>simp[kG,h,ee]
def Jl{m:ae}{l r:List Pr}{k:Nat}{p:Pr}:fC m (kG l k) (p::r)=((eP m p&&(decide (k=0)||decide (lY (l.getD (k-1) default) p<0)))&&fC m (some p) r):=by
 by_cases h:k=0<;>simp[kG,h,fC]
def Jm{m:ae}{l r:List Ld}{k:Nat}{x:Ld}:fO m (kG l k) (x::r)=((gn m x.cls x.opt&&decide (1<=x.wt/\x.wt<=1000)&&(decide (k=0)||decide (mQ (l.getD (k-1) default) x<0)))&&fO m (some x) r):=by
 by_cases h:k=0<;>simp[kG,h,fO]
structure MB(m:ae):Prop where
 cls:m.cls.length<9223372036854775808
 opt:∀ l∈m.cls,l.length<9223372036854775808
 ch:∀ l∈m.cls,∀ o∈l,o.ch.length<9223372036854775808
 aj:m.aj.length<9223372036854775808
 dw:∀ p∈m.aj,p.dw.length<9223372036854775808
 cz:m.cz.length<9223372036854775808
 vw:∀ c∈m.cz,c.ei.length<9223372036854775808
def dZ(out:List Int)(r c:Int):List Int:=out.set r.toNat (fB (out.getD r.toNat 0) c)
def oV:List (Int×Int)->List Int->List Int
 |[],out=>out
 |c::r,out=>oV r (dZ out c.1 c.2)
def lk(m:ae):Nat->List Int->List Int->List Int
 |_,[],out=>out
 |i,o::r,out=>lk m (i+1) r (if o<0 then out else oV ((m.cls.getD i default).getD o.toNat default).ch out)
def l4(m:ae)(p:Pr)(x y:Int):Int:=p.dw.getD (x*(m.cls.getD p.snd.toNat default).length+y).toNat 0
def nN(m:ae)(plan:List Int):List Pr->List Int->List Int
 |[],out=>out
 |p::r,out=>nN m plan r (if 0<=plan.getD p.fst.toNat 0/\0<=plan.getD p.snd.toNat 0 then dZ out p.cM (l4 m p (plan.getD p.fst.toNat 0) (plan.getD p.snd.toNat 0)) else out)
def qc(plan:List Int):List Ld->Int->Int
 |[],n=>n
 |x::r,n=>qc plan r (if plan.getD x.cls.toNat 0=x.opt then n+x.wt else n)
def nO(plan:List Int):List Ct->List Int->List Int
 |[],out=>out
 |c::r,out=>nO plan r (dZ out c.cM (rN c.most c.gd (qc plan c.ei 0)))
def oW:List Int->Int->Int
 |[],n=>n
 |x::r,n=>oW r (fB n x)
def oX(m:ae)(plan:List Int):List Int:=nO plan m.cz (nN m plan m.aj (lk m 0 plan (aw m.rules.toNat 0)))
def bG(x:Int):Prop:=0<=x/\x<=1099511627776
def vx{a b:Int}(ha:bG a)(hb:bG b):bG (fB a b):=by unfold bG fB at *;omega
def nP{n:Int}(h:iy n=true):bG n:=by unfold iy at h;rw[decide_eq_true_eq]at h;unfold bG;omega
def fi(R:Int)(out:List Int):Prop:=(out.length:Int)=R/\∀ x∈out,bG x
def fi.get{R:Int}{out:List Int}(h:fi R out)(i:Nat):bG (out.getD i 0):=by
 rcases cZ i out.length with hi|hi
 ·exact h.2 _ (aO hi)
 ·rw[an,gI hi];unfold bG;decide
def fi.add{R:Int}{out:List Int}(h:fi R out){r c:Int}(hc:bG c):fi R (dZ out r c) :=
 ⟨by rw[dZ,bm];exact h.1,λx hx=>by
  rcases qQ hx with h'|h'
  ·exact h.2 x h'
  ·rw[h'];exact vx (h.get _) hc⟩
def fi.rep{R:Int}(hR:0<=R):fi R (aw R.toNat 0):=⟨UU,λx hx=>by
 have:=uE hx;subst this;unfold bG;decide⟩
structure VM(m:ae):Prop where
 cls:m.cls.length<=24
 opt:∀ l∈m.cls,l.length<=24
 aj:m.aj.length<=4000
 cz:m.cz.length<=800
 qd:0<=m.rules/\m.rules<=56
 rO:∀ l∈m.cls,∀ o∈l,ee m.rules none o.ch=true
 pr:fC m none m.aj=true
 ct:∀ c∈m.cz,gY m c=true
def yG{m:ae}:mR m=0↔VM m:=by
 unfold mR;constructor
 ·intro h;split at h
  ·omega
  split at h
  ·omega
  split at h
  ·omega
  split at h
  ·omega
  rename_i h1 h2 h3 h4;have oG:lZ m=false:=by simpa using h1
  rw[lZ,decide_eq_false_iff_not]at oG;have h5:∀ l∈m.cls,l.length<=24:=λl hl=>by
   rcases cZ 24 l.length with h|h
   ·exact absurd (.inr (.inl (ko.2 ⟨l,hl,by simpa using h⟩))) oG
   ·exact h
  refine⟨z8,h5,z8,z8,z8,λl hl o ho=>?_,by simpa using h3,λc hc=>?_⟩
  ·cases hh:ee m.rules none o.ch with
   |true=>rfl
   |false=>exact absurd (ko.2 ⟨l,hl,ko.2 ⟨o,ho,by rw[hh];rfl⟩⟩) h2
  ·cases hh:gY m c with
   |true=>rfl
   |false=>exact absurd (ko.2 ⟨c,hc,by rw[hh];rfl⟩) h4
 ·intro h;have h0:lZ m=false:=by
   rw[lZ,decide_eq_false_iff_not];rintro(h'|h'|h'|h'|h'|h')
   ·have:=h.cls;omega
   ·obtain⟨l,hl,ja⟩:=ko.1 h';have:=h.opt l hl;simp only[decide_eq_true_eq]at ja;omega
   ·have:=h.aj;omega
   ·have:=h.cz;omega
   ·have:=h.qd;omega
   ·have:=h.qd;omega
  rw[if_neg (by rw[h0];simp),if_neg,if_neg (by rw[h.pr];simp),if_neg]
  ·intro hh;obtain⟨c,hc,h'⟩:=ko.1 hh;rw[h.ct c hc]at h';simp at h'
  ·intro hh;obtain⟨l,hl,h'⟩:=ko.1 hh;obtain⟨o,ho,ja⟩:=ko.1 h';rw[h.rO l hl o ho]at ja;simp at ja
def vy{R:Int}:∀ {l:List (Int×Int)} {q:Option (Int×Int)},ee R q l=true->∀ c∈l,gX R c.1=true/\iy c.2=true
 |[],_,_,c,hc=>by simp at hc
 |x::r,q,h,c,hc=>by
  rw[ee.eq_def]at h;simp only[bb]at h;rcases cI.1 hc with rfl|hc
  ·exact h.1.1
  ·exact vy h.2 c hc
def Jn{R:Int}:∀ {l:List (Int×Int)} {q:Int×Int},ee R (some q) l=true->l=[]\/q.1+l.length<R
 |[],_,_=>.inl rfl
 |x::r,q,h=>by
  right;rw[ee]at h;simp only[bb,decide_eq_true_eq,gX]at h;rcases Jn h.2 with rfl|h5
  ·simp only[b8,eZ];omega
  ·simp only[b8];omega
def PE{R:Int}{l:List (Int×Int)}(hR:0<=R)(h:ee R none l=true):(l.length:Int)<=R:=by
 cases l with
 |nil=>simpa using hR
 |cons x r =>
  rw[ee]at h;simp only[bb,decide_eq_true_eq,gX]at h;rcases Jn h.2 with rfl|h5
  ·simp only[b8,eZ];omega
  ·simp only[b8];omega
def mS{m:ae}:∀ {l:List Pr} {q:Option Pr},fC m q l=true->∀ p∈l,eP m p=true
 |[],_,_,c,hc=>by simp at hc
 |x::r,q,h,c,hc=>by
  rw[fC.eq_def]at h;simp only[bb]at h;rcases cI.1 hc with rfl|hc
  ·exact h.1.1
  ·exact mS h.2 c hc
def nQ{m:ae}{c o:Int}:gn m c o=true↔0<=c/\c<m.cls.length/\0<=o/\o<(m.cls.getD c.toNat default).length:=by rw[gn,decide_eq_true_eq]
def Jo{m:ae}(h:VM m){c o:Int}(hb:gn m c o=true):0<=c/\c<24/\0<=o/\o<24:=by
 obtain⟨h1,h2,h3,h4⟩:=nQ.1 hb;have:=h.cls;have:=h.opt _ (aO (l:=m.cls) (i:=c.toNat) (d:=default) z8);omega
def vz(a b:Int):(a<b/\eO a b = -1)\/(a=b/\eO a b=0)\/(b<a/\eO a b=1):=by
 unfold eO;rcases Int.lt_trichotomy a b with h|h|h
 ·left;exact⟨h,by rw[if_pos h]⟩
 ·right;left;exact⟨h,by rw[if_neg z8,if_neg z8]⟩
 ·right;right;exact⟨h,by rw[if_neg z8,if_pos h]⟩
def BZ{a b:Ld}:mQ a b<0↔a.cls<b.cls\/(a.cls=b.cls/\a.opt<b.opt):=by
 unfold mQ;rcases vz a.cls b.cls with⟨h,e⟩|⟨h,e⟩|⟨h,e⟩<;>rcases vz a.opt b.opt with⟨h',e'⟩|⟨h',e'⟩|⟨h',e'⟩<;>simp[j8,e,e']<;>omega
def Jp{a b:Pr}:lY a b<0↔a.cM<b.cM\/(a.cM=b.cM/\(a.fst<b.fst\/(a.fst=b.fst/\a.snd<b.snd))):=by
 unfold lY;rcases vz a.cM b.cM with⟨h,e⟩|⟨h,e⟩|⟨h,e⟩<;>rcases vz a.fst b.fst with⟨h',e'⟩|⟨h',e'⟩|⟨h',e'⟩<;>rcases vz a.snd b.snd with⟨h2,e2⟩|⟨h2,e2⟩|⟨h2,e2⟩<;>simp[j8,e,e',e2]<;>omega
def Jq{m:ae}(hm:VM m):∀ {l:List Ld} {q:Ld},fO m (some q) l=true->0<=q.cls/\0<=q.opt/\q.opt<24->l=[]\/q.cls*24+q.opt+l.length<576
 |[],_,_,_=>.inl rfl
 |x::r,q,h,hq=>by
  right;rw[fO]at h;simp only[bb,decide_eq_true_eq]at h;obtain⟨⟨⟨h1,h2⟩,h3⟩,h4⟩:=h;obtain⟨a,b,c,d⟩:=Jo hm h1;have aZ:q.cls*24+q.opt<x.cls*24+x.opt:=by
   rcases BZ.1 h3 with h|h<;>omega
  rcases Jq hm h4 ⟨a,c,d⟩ with rfl|h5
  ·simp only[b8,eZ];omega
  ·simp only[b8];omega
def PG{m:ae}(hm:VM m){l:List Ld}(h:fO m none l=true):l.length<=576:=by
 cases l with
 |nil=>simp
 |cons x r =>
  rw[fO]at h;simp only[bb,decide_eq_true_eq]at h;obtain⟨a,b,c,d⟩:=Jo hm h.1.1.1;rcases Jq hm h.2 ⟨a,c,d⟩ with rfl|h5
  ·simp
  ·simp only[b8];omega
def Jr{m:ae}:∀ {l:List Ld} {q:Option Ld},fO m q l=true->∀ x∈l,gn m x.cls x.opt=true/\1<=x.wt/\x.wt<=1000
 |[],_,_,c,hc=>by simp at hc
 |x::r,q,h,c,hc=>by
  rw[fO.eq_def]at h;simp only[bb,decide_eq_true_eq]at h;rcases cI.1 hc with rfl|hc
  ·exact⟨h.1.1.1,h.1.1.2⟩
  ·exact Jr h.2 c hc
def B0{most gd sum:Int}(h:bG gd):bG (rN most gd sum):=by
 unfold rN bG at *;split
 ·omega
 ·have:0<=(sum-most)*gd:=xf z8 h.1;omega
def Js{R:Int}:∀ {l:List (Int×Int)} {out:List Int},fi R out->(∀ c∈l,iy c.2=true)->fi R (oV l out)
 |[],_,h,_=>h
 |c::r,out,h,hc=>by rw[oV];exact Js (h.add (nP (hc c Eb))) λx hx=>hc x (by simp[hx])
structure PM(m:ae)(plan:List Int):Prop where
 len:plan.length=m.cls.length
 get:∀ j,j<plan.length->plan.getD j 0 = -1\/gn m (j:Nat) (plan.getD j 0)=true
def vA{m:ae}{p:Pr}(h:eP m p=true):(0<=p.cM/\p.cM<m.rules)/\0<=p.fst/\p.fst<p.snd/\p.snd<m.cls.length/\(p.dw.length:Int)=(m.cls.getD p.fst.toNat default).length*(m.cls.getD p.snd.toNat default).length:=by
 unfold eP gX at h;simp only[bb,decide_eq_true_eq]at h;exact⟨h.1.1,h.1.2⟩
def tG{x y a b:Int}(hx:0<=x/\x<a)(hy:0<=y/\y<b)(ha:a<=24)(hb:b<=24):0<=x*b/\x*b<=576/\x*b+y<a*b:=by
 have h1:0<=x*b:=xf hx.1 z8;have h2:x*b<=(a-1)*b:=Int.mul_le_mul_of_nonneg_right z8 z8;have h3:(a-1)*b=a*b-b:=by rw[Int.sub_mul,Int.one_mul]
 have h4:a*b<=24*24:=Int.mul_le_mul ha hb z8 z8;omega
def vB{m:ae}{c:Ct}(h:gY m c=true):(0<=c.cM/\c.cM<m.rules)/\(0<=c.most/\c.most<=1048576)/\iy c.gd=true/\fO m none c.ei=true:=by
 unfold gY gX at h;simp only[bb,decide_eq_true_eq]at h;exact⟨h.1.1.1,h.1.1.2,h.1.2,h.2⟩
def yH{m:ae}{p:Pr}(hp:eP m p=true)(x y:Int):bG (l4 m p x y):=by
 unfold l4;rcases cZ (x*(m.cls.getD p.snd.toNat default).length+y).toNat p.dw.length with h|h
 ·unfold eP at hp;simp only[bb,fU,List.any_eq_false]at hp;have:=hp.2 _ (aO (d:=0) h);unfold jG at this;simp only[bb,decide_eq_true_eq,fU,not_and,Bool.not_eq_false]at this;generalize p.dw.getD (x*(m.cls.getD p.snd.toNat default).length+y).toNat 0=n at *;by_cases h0:n=0
  ·subst h0;unfold bG;decide
  ·exact nP (this h0)
 ·rw[an,gI h];unfold bG;decide
def fj(left:List (List Int))(f:Nat)(xs:List Int)(i:Nat)(seen:List Bool)(owner:List Int):Bool×List Bool×List Int :=
 match xs with
 |[]=>(false,seen,owner)
 |x::r =>
  if seen.getD x.toNat false=true then fj left f r i seen owner
  else if owner.getD x.toNat 0<0 then(true,seen.set x.toNat true,owner.set x.toNat i)
  else match f with
   |0=>(false,seen.set x.toNat true,owner)
   |f+1 =>
    let q:=fj left f (left.getD (owner.getD x.toNat 0).toNat []) (owner.getD x.toNat 0).toNat (seen.set x.toNat true) owner
    if q.1=true then(true,q.2.1,q.2.2.set x.toNat i) else fj left (f+1) r i q.2.1 q.2.2
termination_by (f,xs.length)
def fP(seen:List Bool):Nat:=seen.count false
def tH(seen:List Bool)(n:Nat)(h:n<seen.length)(hf:seen.getD n false=false):fP (seen.set n true)+1=fP seen:=by
 unfold fP;rw[List.count_set h];have:seen[n]=false:=by simpa [h] using hf
 have h1:0<seen.count false:=List.count_pos_iff.2 (by rw[<- this];exact lF h);simp[this];omega
def eQ(n:Nat)(R:Nat)(owner:List Int):Prop:=owner.length=R/\∀ o∈owner,-1<=o/\o<n
def dD(R:Nat)(left:List (List Int)):Prop:=left.length<1000000/\∀ l∈left,l.length<1000000/\∀ x∈l,0<=x/\x<R
def eQ.set{n R:Nat}{owner:List Int}(h:eQ n R owner){x i:Nat}(hi:i<n):eQ n R (owner.set x i) :=
 ⟨by simpa using h.1,λo ho=>by
  rcases qQ ho with h'|h'
  ·exact h.2 o h'
  ·subst h';omega⟩
def eQ.get{n R:Nat}{owner:List Int}(h:eQ n R owner){x:Nat}(hx:x<R): -1<=owner.getD x 0/\owner.getD x 0<n:=by
 have hl:x<owner.length:=by rw[h.1];exact hx
 rw[an,aN hl];exact h.2 _ (lF hl)
def dD.get{R:Nat}{left:List (List Int)}(h:dD R left)(i:Nat):(left.getD i []).length<1000000/\∀ x∈left.getD i [],0<=x/\x<R:=by
 rcases cZ i left.length with hi|hi
 ·rw[an,aN hi];exact h.2 _ (lF hi)
 ·rw[an,gI hi];simp
def vC{left:List (List Int)}{R:Nat}(hL:dD R left):∀ (f:Nat) (xs:List Int) (i:Nat) (seen:List Bool) (owner:List Int),(∀ x∈xs,0<=x/\x<R)->i<left.length->eQ left.length R owner->seen.length=R ->
  eQ left.length R (fj left f xs i seen owner).2.2/\(fj left f xs i seen owner).2.1.length=R/\fP (fj left f xs i seen owner).2.1<=fP seen:=by
 intro f
 induction f using uD with
 |_ f mT =>
  intro xs
  induction xs with
  |nil=>intro i seen owner _ _ ho hs;rw[fj];exact⟨ho,hs,aH _⟩
  |cons x r ih =>
   intro i seen owner hx hi ho hs;have hx0:=hx x Eb;have yI:∀ y∈r,0<=y/\y<R:=λy hy=>hx y (by simp[hy]);have aZ:x.toNat<seen.length:=z8;rw[fj.eq_def];simp only;split
   ·exact ih i seen owner yI hi ho hs
   ·rename_i Jt;have hc:=tH seen x.toNat aZ (by simpa using Jt);split
    ·exact⟨ho.set hi,by simpa using hs,by simp only;omega⟩
    ·rename_i T9;have hg:=ho.get (x:=x.toNat) z8;cases f with
     |zero=>exact⟨ho,by simpa using hs,by simp only;omega⟩
     |succ f' =>
      have h1:=mT f' z8 (left.getD (owner.getD x.toNat 0).toNat []) (owner.getD x.toNat 0).toNat (seen.set x.toNat true) owner (hL.get _).2 z8 ho (by simpa using hs);obtain⟨a1,a2,a3⟩:=h1;simp only;split
      ·exact⟨a1.set hi,a2,by simp only;omega⟩
      ·have h2:=ih i _ _ yI hi a1 a2;exact⟨h2.1,h2.2.1,z8⟩
def j'(right:Int):List Int->Int
 |[]=>0
 |n::r=>if n<0\/n >= right then 3 else j' right r
def ke(right:Int):List (List Int)->Int
 |[]=>0
 |l::r=>if l.length > 4096 then 2 else if j' right l≠0 then 3 else ke right r
def check(left:List (List Int))(right:Int):Int:=if left.length > 256 then 2 else if right<0\/right > 4096 then 3 else ke right left
def oY(left:List (List Int))(R:Nat)(l5:Int):Nat->Nat->Nat->List Int->Nat
 |0,_,n,_=>n
 |c+1,i,n,owner =>
  if(i:Int)=l5 then oY left R l5 c (i+1) n owner
  else
   let q:=fj left R (left.getD i []) i (aw R false) owner
   oY left R l5 c (i+1) (if q.1=true then n+1 else n) q.2.2
def size(left:List (List Int))(R:Nat)(l5:Int):Nat:=oY left R l5 left.length 0 0 (aw R (-1))
def B1(R:Nat):fP (aw R false)=R:=by simp[fP]
def eQ.rep(n R:Nat):eQ n R (aw R (-1)):=⟨Eb,λo ho=>by
 have:=uE ho;subst this;omega⟩
def dc(left:List (List Int))(f:Nat)(xs:List Int)(i:Nat)(seen:List Bool)(owner number:List Int):Bool×List Bool×List Int×List Int :=
 match xs with
 |[]=>(false,seen,owner,number)
 |x::r =>
  if seen.getD x.toNat false=true then dc left f r i seen owner number
  else if owner.getD x.toNat 0<0 then(true,seen.set x.toNat true,owner.set x.toNat i,number.set i x)
  else match f with
   |0=>(false,seen.set x.toNat true,owner,number)
   |f+1 =>
    let q:=dc left f (left.getD (owner.getD x.toNat 0).toNat []) (owner.getD x.toNat 0).toNat (seen.set x.toNat true) owner number
    if q.1=true then(true,q.2.1,q.2.2.1.set x.toNat i,q.2.2.2.set i x) else dc left (f+1) r i q.2.1 q.2.2.1 q.2.2.2
termination_by (f,xs.length)
def yJ(left:List (List Int)):∀ (f:Nat) (xs:List Int) (i:Nat) (seen:List Bool) (owner number:List Int),
  (dc left f xs i seen owner number).1=(fj left f xs i seen owner).1/\(dc left f xs i seen owner number).2.1=(fj left f xs i seen owner).2.1/\(dc left f xs i seen owner number).2.2.1=(fj left f xs i seen owner).2.2 /\
  (dc left f xs i seen owner number).2.2.2.length=number.length:=by
 intro f
 induction f using uD with
 |_ f mT =>
  intro xs
  induction xs with
  |nil=>intro i seen owner number;rw[dc.eq_def,fj.eq_def];exact⟨rfl,rfl,rfl,rfl⟩
  |cons x r ih =>
   intro i seen owner number;rw[dc.eq_def,fj.eq_def];simp only;split
   ·exact ih i seen owner number
   ·split
    ·exact⟨rfl,rfl,rfl,Eb⟩
    ·cases f with
     |zero=>exact⟨rfl,rfl,rfl,rfl⟩
     |succ f' =>
      obtain⟨h1,h2,h3,h4⟩:=mT f' z8 (left.getD (owner.getD x.toNat 0).toNat []) (owner.getD x.toNat 0).toNat (seen.set x.toNat true) owner number;simp only;rw[h1,h2,h3];split
      ·exact⟨rfl,rfl,rfl,by rw[bm];exact h4⟩
      ·have:=ih i (fj left f' (left.getD (owner.getD x.toNat 0).toNat []) (owner.getD x.toNat 0).toNat (seen.set x.toNat true) owner).2.1 (fj left f' (left.getD (owner.getD x.toNat 0).toNat []) (owner.getD x.toNat 0).toNat (seen.set x.toNat true) owner).2.2
        (dc left f' (left.getD (owner.getD x.toNat 0).toNat []) (owner.getD x.toNat 0).toNat (seen.set x.toNat true) owner number).2.2.2
       rw[h4]at this;exact this
def Ju{n k:Nat}(h:k<=n)(a b:Int):(aw k a++aw (n-k) b).length=n:=UU
def Jv{n k:Nat}(h:k<n)(a b:Int):(aw k a++aw (n-k) b).set k a=aw (k+1) a++aw (n-(k+1)) b:=by
 have:n-k=(n-(k+1))+1:=z8;rw[this,xg (n:=n-(k+1)),sR _ _ Eb,List.length_replicate,kn,sI,List.replicate_succ'];simp
def l6(left:List (List Int))(R:Nat):Nat->Nat->List Int->List Int->List Int×List Int
 |0,_,owner,number=>(owner,number)
 |c+1,i,owner,number =>
  let q:=dc left R (left.getD i []) i (aw R false) owner number
  l6 left R c (i+1) q.2.2.1 q.2.2.2
def dV(left:List (List Int))(R:Nat):List Int×List Int:=l6 left R left.length 0 (aw R (-1)) (aw left.length (-1))
def tI(left:List (List Int))(right:Int):List Int×Int:=if check left right≠0 then([],check left right) else((dV left right.toNat).2,0)
def PH{right:Int}{l:List Int}(h:j' right l=0):∀ x∈l,0<=x/\x<right:=by
 induction l with
 |nil=>simp
 |cons n r ih =>
  rw[j']at h;split at h
  ·omega
  ·intro x hx;rcases cI.1 hx with rfl|hx
   ·omega
   ·exact ih h x hx
def PI{right:Int}{left:List (List Int)}(h:ke right left=0):∀ l∈left,l.length<=4096/\∀ x∈l,0<=x/\x<right:=by
 induction left with
 |nil=>simp
 |cons l r ih =>
  rw[ke]at h;split at h
  ·omega
  ·split at h
   ·omega
   ·intro y hy;rename_i h1 h2;rcases cI.1 hy with rfl|hy
    ·exact⟨z8,PH z8⟩
    ·exact ih h y hy
def B2{left:List (List Int)}{right:Int}(h:check left right=0):dD right.toNat left/\0<=right/\right<=4096:=by
 unfold check at h;split at h
 ·omega
 ·split at h
  ·omega
  ·rename_i h1 h2;refine⟨⟨z8,λl hl=>?_⟩,z8,z8⟩;obtain⟨a,b⟩:=PI h l hl;exact⟨z8,λx hx=>by have:=b x hx;omega⟩
def ca:List Bool->Nat->List Int
 |[],_=>[]
 |b::r,k=>if b=true then(k:Int)::ca r (k+1) else ca r (k+1)
def eA(list:List Int):List Int->List Int->List Bool->List Bool->List Int×List Bool×List Bool
 |[],q,used,av=>(q,used,av)
 |n::r,q,used,av =>
  if 0<=list.getD n.toNat 0/\av.getD (list.getD n.toNat 0).toNat false=false then eA list r (q++[list.getD n.toNat 0]) (used.set n.toNat true) (av.set (list.getD n.toNat 0).toNat true)
  else eA list r q (used.set n.toNat true) av
def ll(left:List (List Int))(list:List Int):Nat->List Int->List Bool->List Bool->List Bool×List Bool
 |0,_,used,av=>(used,av)
 |_+1,[],used,av=>(used,av)
 |f+1,i::q,used,av=>let z:=eA list (left.getD i.toNat []) q used av;ll left list f z.1 z.2.1 z.2.2
def fQ(m:List Int):List Bool:=m.map λn=>decide (n<0)
def dL(left:List (List Int))(R:Nat):List Int×List Int :=
 let z:=ll left (dV left R).1 left.length (ca (fQ (dV left R).2) 0) (aw R false) (fQ (dV left R).2)
 (ca z.2 0,ca z.1 0)
def jH(left:List (List Int))(right:Int):List Int×List Int×Int:=if check left right≠0 then([],[],check left right) else((dL left right.toNat).1,(dL left right.toNat).2,0)
def Jw{left:List (List Int)}{R:Nat}(hL:dD R left):∀ (c i:Nat) (owner number:List Int),i+c<=left.length->eQ left.length R owner->eQ left.length R (l6 left R c i owner number).1/\(l6 left R c i owner number).2.length=number.length
 |0,i,owner,number,_,ho=>⟨ho,rfl⟩
 |c+1,i,owner,number,hi,ho=>by
  have dH:=vC hL R (left.getD i []) i (aw R false) owner (hL.get _).2 z8 ho Eb;obtain⟨e1,e2,e3,e4⟩:=yJ left R (left.getD i []) i (aw R false) owner number;rw[<- e3]at dH;rw[l6];obtain⟨a,b⟩:=Jw hL c (i+1) _ (dc left R (left.getD i []) i (aw R false) owner number).2.2.2 z8 dH.1;exact⟨a,b.trans e4⟩
def PJ{left:List (List Int)}{R:Nat}(hL:dD R left):eQ left.length R (dV left R).1/\(dV left R).2.length=left.length:=by
 obtain⟨a,b⟩:=Jw hL left.length 0 (aw R (-1)) (aw left.length (-1)) z8 (eQ.rep _ _);exact⟨a,by rw[dV,b];simp⟩
def PK{l:List Bool}{k n:Nat}(hl:l.length=n)(hk:k<n)(h:l.getD k false=true):(l.take k++aw (n-k) false).set k true=l.take (k+1)++aw (n-(k+1)) false:=by
 have e:n-k=(n-(k+1))+1:=z8;rw[e,xg,sR _ _ UU,List.length_take,Nat.min_eq_left z8,kn,sI,Ec];have:l[k]?=some true:=by
  have aQ:k<l.length:=z8;rw[an,aN aQ,dg]at h;rw[aN aQ,h]
 simp[this]
def PL{l:List Bool}{k n:Nat}(hl:l.length=n)(hk:k<n)(h:l.getD k false=false):l.take k++aw (n-k) false=l.take (k+1)++aw (n-(k+1)) false:=by
 have e:n-k=(n-(k+1))+1:=z8;rw[e,xg,Ec];have:l[k]?=some false:=by
  have aQ:k<l.length:=z8;rw[an,aN aQ,dg]at h;rw[aN aQ,h]
 simp[this]
def qe(l:List Bool):∀ (k:Nat),∀ x∈ca l k,(k:Int)<=x/\x<(k+l.length:Nat):=by
 induction l with
 |nil=>intro k x hx;simp[ca]at hx
 |cons b r ih =>
  intro k x hx;rw[ca]at hx;have:=ih (k+1) x;simp only[b8];split at hx
  ·rcases cI.1 hx with rfl|hx
   ·omega
   ·have:=this hx;omega
  ·have:=this hx;omega
def B3(l:List Bool):∀ (k:Nat),(ca l k).length+fP l=l.length:=by
 induction l with
 |nil=>intro k;rfl
 |cons b r ih =>
  intro k;have:=ih (k+1);rw[ca];unfold fP at *;cases b<;>simp<;>omega
def yK{list:List Int}{n R:Nat}(ho:eQ n R list):∀ (l:List Int) (q:List Int) (used av:List Bool),(∀ x∈l,0<=x/\x<R)->(∀ x∈q,0<=x/\x<n)->used.length=R->av.length=n ->
  (∀ x∈(eA list l q used av).1,0<=x/\x<n)/\(eA list l q used av).2.1.length=R/\(eA list l q used av).2.2.length=n/\(eA list l q used av).1.length+fP (eA list l q used av).2.2=q.length+fP av
 |[],q,used,av,_,hq,hu,hi=>⟨hq,hu,hi,rfl⟩
 |x::r,q,used,av,hl,hq,hu,hi=>by
  have hx:=hl x Eb;have hr:∀ x∈r,0<=x/\x<R:=λy hy=>hl y (by simp[hy]);have vD:=ho.get (x:=x.toNat) z8;rw[eA];split
  ·rename_i hc;have p7:=tH av (list.getD x.toNat 0).toNat z8 hc.2;obtain⟨a,b,c,d⟩:=yK ho r (q++[list.getD x.toNat 0]) (used.set x.toNat true) (av.set (list.getD x.toNat 0).toNat true) hr (by
    intro y hy;rcases bn.1 hy with hy|hy
    ·exact hq y hy
    ·simp only[bB]at hy;subst hy;omega) (by simpa using hu) (by simpa using hi)
   refine⟨a,b,c,?_⟩;rw[d,List.length_append,List.length_singleton];omega
  ·exact yK ho r q _ av hr hq (by simpa using hu) hi
def B4(n:Nat)(q:List Int):Prop:=∀ x∈q,0<=x/\x<n
def qf:List Int->List Bool->List Bool
 |[],av=>av
 |x::r,av=>qf r (av.set x.toNat true)
def Jx:∀ (l:List Int) (av:List Bool),(qf l av).length=av.length
 |[],av=>rfl
 |x::r,av=>by rw[qf,Jx r];simp
def nR(left:List (List Int))(R n:Nat):Nat->Nat->List Int->List Bool->List Int×List Bool
 |0,_,g,av=>(g,av)
 |c+1,i,g,av=>if size left R i=n then nR left R n c (i+1) (g++[(i:Int)]) (qf (left.getD i []) av) else nR left R n c (i+1) g av
def B5(left:List (List Int))(R:Nat):List Int×List Int :=
 ((nR left R (size left R (-1)) left.length 0 [] (aw R false)).1,ca (nR left R (size left R (-1)) left.length 0 [] (aw R false)).2 0)
def l7{α:Type}(l:List α)(i j:Nat)(v d:α)(h:i<l.length):(l.set i v).getD j d=if j=i then v else l.getD j d:=by
 simp only[an,bM];by_cases tJ:j=i
 ·subst tJ;simp[h]
 ·simp[tJ,Ne.symm tJ]
def iz{α:Type}(l:List α)(i j:Nat)(v d:α)(h:j≠i):(l.set i v).getD j d=l.getD j d:=by
 simp only[an,bM];simp[Ne.symm h]
def ln{α:Type}(l:List α)(i:Nat)(v d:α)(h:i<l.length):(l.set i v).getD i d=v:=by
 rw[l7 _ _ _ _ _ h];simp
def rP{α:Type}(n j:Nat)(v:α):(aw n v).getD j v=v:=by
 simp only[an,Ae];split<;>rfl
def vF{α:Type}(n j:Nat)(v d:α)(h:j<n):(aw n v).getD j d=v:=by
 simp only[an,Ae,h,if_true,dg]
structure oZ(left:List (List Int))(R:Nat)(owner number:List Int):Prop where
 hO:eQ left.length R owner
 hN:number.length=left.length
 fR:∀ j,j<left.length->-1<=number.getD j 0
 fwd:∀ j,j<left.length->0<=number.getD j 0->number.getD j 0<R/\owner.getD (number.getD j 0).toNat 0=j/\number.getD j 0∈left.getD j []
 bwd:∀ x,x<R->0<=owner.getD x 0->number.getD (owner.getD x 0).toNat 0=x
structure PN(left:List (List Int))(R:Nat)(xs:List Int)(i:Nat)(seen:List Bool)(owner number nS l8:List Int):Prop where
 hO:eQ left.length R nS
 hN:l8.length=left.length
 fR:∀ j,j<left.length->-1<=l8.getD j 0
 fwd:∀ j,j<left.length->j≠i->0<=l8.getD j 0->l8.getD j 0<R/\nS.getD (l8.getD j 0).toNat 0=j/\l8.getD j 0∈left.getD j []
 bwd:∀ x,x<R->0<=nS.getD x 0->nS.getD x 0≠i->l8.getD (nS.getD x 0).toNat 0=x
 me :∃y,y<R/\l8.getD i 0=(y:Nat)/\nS.getD y 0=i/\(y:Int)∈xs/\seen.getD y false=false/\∀ x,x<R->nS.getD x 0=i->x=y\/seen.getD x false=true
 cg:∀ x,x<R->seen.getD x false=true->nS.getD x 0=owner.getD x 0
 same:∀ j,j<left.length->j≠i->(number.getD j 0<0\/∃ x,x<R/\number.getD j 0=(x:Nat)/\seen.getD x false=true)->l8.getD j 0=number.getD j 0
 pos:∀ j,j<left.length->j≠i->(0<=l8.getD j 0↔0<=number.getD j 0)
structure PO(left:List (List Int))(R:Nat)(xs:List Int)(seen:List Bool)(owner number:List Int)(B6:List Bool)(nS l8:List Int):Prop where
 eo:nS=owner
 en:l8=number
 all:∀ x∈xs,B6.getD x.toNat false=true
 cl:∀ x,x<R->B6.getD x false=true->seen.getD x false=true\/(0<=owner.getD x 0/\∀ y∈left.getD (owner.getD x 0).toNat [],B6.getD y.toNat false=true)
def PQ{left:List (List Int)}{R:Nat}(hL:dD R left):∀ (f:Nat) (xs:List Int) (i:Nat) (seen:List Bool) (owner number:List Int),fP seen<=f->seen.length=R->(∀ x∈xs,0<=x/\x<R)->i<left.length->oZ left R owner number ->
  (∀ x,x<R->owner.getD x 0=i->seen.getD x false=true)->∀ q,dc left f xs i seen owner number=q ->
   (q.1=true->PN left R xs i seen owner number q.2.2.1 q.2.2.2)/\(q.1=false->PO left R xs seen owner number q.2.1 q.2.2.1 q.2.2.2)/\(∀ x,seen.getD x false=true->q.2.1.getD x false=true)/\q.2.1.length=R/\fP q.2.1<=fP seen:=by
 intro f
 induction f using uD with
 |_ f mT =>
  intro xs
  induction xs with
  |nil =>
   intro i seen owner number hc hs hx hi hM h3 q hq;rw[dc.eq_def]at hq;subst hq;exact⟨Eb,λ_=>⟨rfl,rfl,Eb,λx _ h=>.inl h⟩,λ_ h=>h,hs,aH _⟩
  |cons x r ih =>
   intro i seen owner number hc hs hx hi hM h3 q hq;obtain⟨hx0,T'⟩:=hx x Eb;have hr:∀ x∈r,0<=x/\x<R:=λy hy=>hx y (by simp[hy]);obtain⟨n,rfl⟩:∃n:Nat,x=n:=⟨x.toNat,z8⟩;rw[dc.eq_def]at hq;simp only[bY]at hq;have qg:n<R:=z8;have jB:n<owner.length:=by rw[hM.hO.1];exact qg
   have cR:i<number.length:=by rw[hM.hN];exact hi
   by_cases iH:seen.getD n false=true
   ·rw[if_pos iH]at hq;obtain⟨a,b,c,d,e⟩:=ih i seen owner number hc hs hr hi hM h3 q hq;refine⟨λh=>?_,λh=>?_,c,d,e⟩
    ·obtain⟨y,y1,y2,y3,y4,y5,y6⟩:=(a h).me;exact { a h with me:=⟨y,y1,y2,y3,by simp[y4],y5,y6⟩ }
    ·refine { b h with all:=λy hy=>?_ };rcases cI.1 hy with rfl|hy
     ·simpa using c n iH
     ·exact(b h).all y hy
   ·have B7:seen.getD n false=false:=by simpa using iH
    rw[if_neg iH]at hq;have iD:=tH seen n z8 B7;have vD:=hM.hO.get qg;have l9:∀ x,seen.getD x false=true->(seen.set n true).getD x false=true:=λx hx=>by
     rw[l7 _ _ _ _ _ z8];split<;>simp_all
    by_cases pW:owner.getD n 0<0
    ·rw[if_pos pW]at hq;subst hq;refine⟨λ_=>?_,Eb,l9,by simpa using hs,UT⟩;dsimp only;refine⟨hM.hO.set hi,by simpa using hM.hN,?_,?_,?_,⟨n,qg,ln _ _ _ _ cR,ln _ _ _ _ jB,Eb,B7,?_⟩,?_,?_,?_⟩
     ·intro j hj;rw[l7 _ _ _ _ _ cR];split
      ·omega
      ·exact hM.fR j hj
     ·intro j hj dt h0;rw[iz _ _ _ _ _ dt]at h0 ⊢;obtain⟨a,b,c⟩:=hM.fwd j hj h0;refine⟨a,?_,c⟩;rw[iz]
      ·exact b
      ·intro e;rw[e]at b;omega
     ·intro y hy h0 bx;by_cases o7:y=n
      ·subst o7;rw[ln _ _ _ _ jB]at bx;exact absurd rfl bx
      ·rw[iz _ _ _ _ _ o7]at h0 bx ⊢;rw[iz]
       ·exact hM.bwd y hy h0
       ·omega
     ·intro y hy he;by_cases o7:y=n
      ·exact .inl o7
      ·rw[iz _ _ _ _ _ o7]at he;exact .inr (h3 y hy he)
     ·intro y hy yL;rw[iz];intro e;subst e;simp_all
     ·intro j hj dt _;exact iz _ _ _ _ _ dt
     ·intro j hj dt;rw[iz _ _ _ _ _ dt]
    ·rw[if_neg pW]at hq;obtain⟨f',rfl⟩:∃f',f=f'+1:=⟨f-1,z8⟩;simp only at hq;obtain⟨o,ho⟩:∃o:Nat,owner.getD n 0=o:=⟨(owner.getD n 0).toNat,z8⟩;rw[ho]at hq;simp only[bY]at hq;have p8:o<left.length:=z8;have B8:number.getD o 0=n:=by
      have:=hM.bwd n qg z8;rwa [ho,bY]at this
     have PR:o≠i:=by
      intro e;subst e;have:=h3 n qg ho;simp_all
     have PS:∀ x,x<R->owner.getD x 0=o->(seen.set n true).getD x false=true:=by
      intro y hy he;have:=hM.bwd y hy z8;rw[he,bY,B8]at this;have:y=n:=z8;subst this;exact ln _ _ _ _ z8
     have hp:=mT f' z8 (left.getD o []) o (seen.set n true) owner number z8 (by simpa using hs) (hL.get _).2 p8 hM PS _ rfl;generalize dc left f' (left.getD o []) o (seen.set n true) owner number=p at hp hq;obtain⟨p1,p2,p3,p4,p5⟩:=hp;by_cases rQ:p.1=true
     ·rw[if_pos rQ]at hq;subst hq;have hE:=p1 rQ;obtain⟨pb,ps,po,pn⟩:=p;dsimp only at hE p3 p4 p5 ⊢;obtain⟨y,y1,y2,y3,y4,y5,y6⟩:=hE.me;have Jy:n<po.length:=by rw[hE.hO.1];exact qg
      have vG:i<pn.length:=by rw[hE.hN];exact hi
      have PU:po.getD n 0=o:=by rw[hE.cg n qg (ln _ _ _ _ z8),ho]
      have o7:y≠n:=by
       intro e;subst e;rw[ln _ _ _ _ z8]at y5;simp at y5
      have PV:pn.getD i 0=number.getD i 0:=by
       refine hE.same i hi (Ne.symm PR) ?_;by_cases h0:number.getD i 0<0
       ·exact .inl h0
       ·right;obtain⟨a,b,c⟩:=hM.fwd i hi z8;exact⟨(number.getD i 0).toNat,z8,z8,l9 _ (h3 _ z8 b)⟩
      refine⟨λ_=>⟨hE.hO.set hi,by simpa using hE.hN,?_,?_,?_,⟨n,qg,ln _ _ _ _ vG,ln _ _ _ _ Jy,Eb,B7,?_⟩,?_,?_,?_⟩,Eb,λx h=>p3 x (l9 x h),p4,z8⟩
      ·intro j hj;rw[l7 _ _ _ _ _ vG];split
       ·omega
       ·exact hE.fR j hj
      ·intro j hj dt h0;rw[iz _ _ _ _ _ dt]at h0 ⊢;by_cases rR:j=o
       ·subst rR;rw[y2];refine⟨z8,?_,y4⟩;rw[bY,iz _ _ _ _ _ o7];exact y3
       ·obtain⟨a,b,c⟩:=hE.fwd j hj rR h0;refine⟨a,?_,c⟩;rw[iz]
        ·exact b
        ·intro e;rw[e,PU]at b;omega
      ·intro z hz h0 bx;by_cases rS:z=n
       ·subst rS;rw[ln _ _ _ _ Jy]at bx;exact absurd rfl bx
       ·rw[iz _ _ _ _ _ rS]at h0 bx ⊢;rw[iz _ _ _ _ _ z8];by_cases yM:po.getD z 0=o
        ·rcases y6 z hz yM with rfl|ay
         ·rw[yM,bY,y2]
         ·have:=hE.cg z hz ay;rw[yM]at this;have hb:=hM.bwd z hz z8;rw[<- this,bY,B8]at hb;omega
        ·exact hE.bwd z hz h0 yM
      ·intro z hz he;by_cases rS:z=n
       ·exact .inl rS
       ·right;rw[iz _ _ _ _ _ rS]at he;have hb:=hE.bwd z hz z8 z8;rw[he,bY,PV]at hb;obtain⟨a,b,c⟩:=hM.fwd i hi z8;rw[hb,bY]at b;exact h3 z hz b
      ·intro z hz ay;have rS:z≠n:=by intro e;subst e;simp_all
       rw[iz _ _ _ _ _ rS];exact hE.cg z hz (l9 z ay)
      ·intro j hj dt mU;rw[iz _ _ _ _ _ dt];have rR:j≠o:=by
        intro e;subst e;rcases mU with h|⟨z,hz,oP,yN⟩
        ·omega
        ·have:z=n:=z8;subst this;simp_all
       refine hE.same j hj rR ?_;rcases mU with h|⟨z,hz,oP,yN⟩
       ·exact .inl h
       ·exact .inr ⟨z,hz,oP,l9 z yN⟩
      ·intro j hj dt;rw[iz _ _ _ _ _ dt];by_cases rR:j=o
       ·subst rR;rw[y2,B8];omega
       ·exact hE.pos j hj rR
     ·rw[if_neg rQ]at hq;have hF:=p2 (by simpa using rQ);obtain⟨pb,ps,po,pn⟩:=p;dsimp only at hF p3 p4 p5 hq;obtain⟨rfl,rfl,PW,PX⟩:=hF;obtain⟨a,b,c,d,e⟩:=ih i ps po pn z8 p4 hr hi hM (λx hx h=>p3 x (l9 x (h3 x hx h))) q hq;refine⟨λh=>?_,λh=>?_,λx h=>c x (p3 x (l9 x h)),d,z8⟩
      ·have hE:=a h;obtain⟨y,y1,y2,y3,y4,y5,y6⟩:=hE.me;refine⟨hE.hO,hE.hN,hE.fR,hE.fwd,hE.bwd,⟨y,y1,y2,y3,by simp[y4],?_,?_⟩,λz hz h=>hE.cg z hz (p3 z (l9 z h)),?_,hE.pos⟩
       ·cases yL:seen.getD y false with
        |false=>rfl
        |true=>rw[p3 y (l9 y yL)]at y5;simp at y5
       ·intro z hz he;rcases y6 z hz he with h|h
        ·exact .inl h
        ·right;have hk:=hE.cg z hz h;rw[he]at hk;exact h3 z hz hk.symm
       ·intro j hj dt mU;refine hE.same j hj dt ?_;rcases mU with h|⟨z,hz,oP,yN⟩
        ·exact .inl h
        ·exact .inr ⟨z,hz,oP,p3 z (l9 z yN)⟩
      ·have hG:=b h;refine⟨hG.eo,hG.en,λy hy=>?_,λy hy yL=>?_⟩
       ·rcases cI.1 hy with rfl|hy
        ·rw[bY];exact c n (p3 n (ln _ _ _ _ z8))
        ·exact hG.all y hy
       ·rcases hG.cl y hy yL with h'|h'
        ·rcases PX y hy h' with ja|ja
         ·rw[l7 _ _ _ _ _ z8]at ja;split at ja
          ·rename_i o7;subst o7;right;refine⟨z8,?_⟩;rw[ho,bY];intro z hz;exact c _ (PW z hz)
          ·exact .inl ja
         ·exact .inr ⟨ja.1,λz hz=>c _ (ja.2 z hz)⟩
        ·exact .inr h'
def yO(left:List (List Int))(R:Nat)(D:Nat->Prop)(owner:List Int):Prop:=∀ x,x<R->D x->0<=owner.getD x 0/\∀ y∈left.getD (owner.getD x 0).toNat [],D y.toNat
def PY{left:List (List Int)}{R:Nat}(hL:dD R left){D:Nat->Prop}:∀ (f:Nat) (xs:List Int) (i:Nat) (seen:List Bool) (owner number:List Int),(∀ x∈xs,0<=x/\x<R)->yO left R D owner ->
  ((∀ x∈xs,D x.toNat)->(dc left f xs i seen owner number).1=false)/\∀ x,x<R->D x->(dc left f xs i seen owner number).2.2.1.getD x 0=owner.getD x 0:=by
 intro f
 induction f using uD with
 |_ f mT =>
  intro xs
  induction xs with
  |nil=>intro i seen owner number _ hC;rw[dc.eq_def];exact⟨λ_=>rfl,λ_ _ _=>rfl⟩
  |cons x r ih =>
   intro i seen owner number hx hC;have hr:∀ x∈r,0<=x/\x<R:=λy hy=>hx y (by simp[hy]);have Ua:=hx x Eb;rw[dc.eq_def];simp only;split
   ·obtain⟨a,b⟩:=ih i seen owner number hr hC;exact⟨λh=>a λy hy=>h y (by simp[hy]),b⟩
   ·split
    ·rename_i h1 h2;refine⟨λh=>?_,λy hy hD=>?_⟩
     ·have:=(hC x.toNat z8 (h x Eb)).1;omega
     ·rw[iz];intro e;subst e;have:=(hC _ hy hD).1;omega
    ·cases f with
     |zero=>exact⟨λ_=>rfl,λ_ _ _=>rfl⟩
     |succ f' =>
      obtain⟨a,b⟩:=mT f' z8 (left.getD (owner.getD x.toNat 0).toNat []) (owner.getD x.toNat 0).toNat (seen.set x.toNat true) owner number (hL.get _).2 hC;simp only;generalize dc left f' (left.getD (owner.getD x.toNat 0).toNat []) (owner.getD x.toNat 0).toNat (seen.set x.toNat true) owner number=p at a b ⊢;have PZ:yO left R D p.2.2.1:=by
       intro y hy hD;rw[b y hy hD];exact hC y hy hD
      split
      ·rename_i hp;refine⟨λh=>?_,λy hy hD=>?_⟩
       ·have:=a (hC x.toNat z8 (h x Eb)).2;simp_all
       ·dsimp only;rw[iz]
        ·exact b y hy hD
        ·intro e;subst e;have:=a (hC _ hy hD).2;simp_all
      ·obtain⟨c,d⟩:=ih i p.2.1 p.2.2.1 p.2.2.2 hr PZ;exact⟨λh=>c λy hy=>h y (by simp[hy]),λy hy hD=>(d y hy hD).trans (b y hy hD)⟩
def cn(n:Nat)(p:Nat->Bool):Nat:=(bj n).countP p
def B9(p:Nat->Bool):cn 0 p=0:=rfl
def jb(n:Nat)(p:Nat->Bool):cn (n+1) p=cn n p+(if p n=true then 1 else 0):=by
 simp only[cn,List.range_succ,List.countP_append,List.countP_cons,List.countP_nil,Nat.zero_add]
def mV{n:Nat}{p q:Nat->Bool}(h:∀ i,i<n->p i=q i):cn n p=cn n q:=by
 induction n with
 |zero=>rfl
 |succ n ih=>rw[jb,jb,ih λi hi=>h i z8,h n z8]
def o8{n:Nat}{p q:Nat->Bool}(h:∀ i,i<n->p i=true->q i=true):cn n p<=cn n q:=by
 induction n with
 |zero=>exact aH _
 |succ n ih =>
  rw[jb,jb];have:=ih λi hi=>h i z8;have:=h n z8;split<;>split<;>simp_all<;>omega
def nT(n:Nat)(p q:Nat->Bool):cn n p=cn n (λi=>p i&&q i)+cn n (λi=>p i&&!q i):=by
 induction n with
 |zero=>rfl
 |succ n ih =>
  rw[jb,jb,jb,ih];cases p n<;>cases q n<;>simp<;>omega
def B'{n:Nat}{p:Nat->Bool}(h:cn n p=0):∀ i,i<n->p i=false:=by
 induction n with
 |zero=>intro i hi;omega
 |succ n ih =>
  rw[jb]at h;intro i hi;rcases Nat.lt_succ_iff_lt_or_eq.1 hi with hi|rfl
  ·exact ih z8 i hi
  ·cases hp:p i with
   |false=>rfl
   |true=>rw[hp]at h;simp at h
def Jz{n:Nat}{p:Nat->Bool}(h:∀ i,i<n->p i=false):cn n p=0:=by
 induction n with
 |zero=>rfl
 |succ n ih=>rw[jb,ih λi hi=>h i z8,h n z8];rfl
def Ca(n:Nat)(p:Nat->Bool):cn n p+cn n (λi=>!p i)=n:=by
 induction n with
 |zero=>rfl
 |succ n ih=>rw[jb,jb];cases p n<;>simp<;>omega
def Cb{n:Nat}{p q:Nat->Bool}(k:Nat)(hk:k<n)(h:∀ i,i<n->i≠k->p i=q i)(hp:p k=true)(hq:q k=false):cn n p=cn n q+1:=by
 induction n with
 |zero=>omega
 |succ n ih =>
  rw[jb,jb];by_cases JA:k=n
  ·subst JA;rw[mV (p:=p) (q:=q) λi hi=>h i z8 z8,hp,hq];rfl
  ·rw[ih z8 λi hi=>h i z8,h n z8 (Ne.symm JA)];omega
def JB{n m:Nat}{p q:Nat->Bool}(f:Nat->Nat)(h1:∀ i,i<n->p i=true->f i<m/\q (f i)=true)(h2:∀ i j,i<n->j<n->p i=true->p j=true->f i=f j->i=j):cn n p<=cn m q:=by
 induction n generalizing q with
 |zero=>simp[B9]
 |succ n ih =>
  rw[jb];split
  ·rename_i hp;obtain⟨a,b⟩:=h1 n z8 hp;have e:=Cb (n:=m) (p:=q) (q:=λx=>q x&&!decide (x=f n)) (f n) a (λi _ hi=>by simp[hi]) b Eb;have:=ih (q:=λx=>q x&&!decide (x=f n)) (λi hi vG=>by
    obtain⟨c,d⟩:=h1 i z8 vG;refine⟨c,?_⟩;have:f i≠f n:=λe=>by have:=h2 i n z8 z8 vG hp e;omega
    simp[d,this]) (λi j hi hj=>h2 i j z8 z8)
   omega
  ·exact ih (λi hi=>h1 i z8) (λi j hi hj=>h2 i j z8 z8)
def nU(left:List (List Int))(R:Nat)(w:Int):Nat->Nat->List Int->List Int->List Int×List Int
 |0,_,owner,number=>(owner,number)
 |c+1,i,owner,number =>
  if(i:Int)=w then nU left R w c (i+1) owner number
  else
   let q:=dc left R (left.getD i []) i (aw R false) owner number
   nU left R w c (i+1) q.2.2.1 q.2.2.2
def on(number:List Int)(i:Nat):Bool:=decide (0<=number.getD i 0)
structure Inv(left:List (List Int))(R:Nat)(w:Int)(i:Nat)(owner number:List Int)(D:Nat->Prop):Prop where
 ok:oZ left R owner number
 rest:∀ j,j<left.length->(i<=j\/(j:Int)=w)->number.getD j 0 = -1
 cl:yO left R D owner
 dead:∀ j,j<i->j<left.length->(j:Int)≠w->number.getD j 0<0->∀ y∈left.getD j [],D y.toNat
def Inv.step{left:List (List Int)}{R:Nat}(hL:dD R left){w:Int}{i:Nat}{owner number:List Int}{D:Nat->Prop}(h:Inv left R w i owner number D)(hi:i<left.length)(hw:(i:Int)≠w):
  ∀ q,dc left R (left.getD i []) i (aw R false) owner number=q->(∃ D',Inv left R w (i+1) q.2.2.1 q.2.2.2 D')/\cn left.length (on q.2.2.2)=cn left.length (on number)+(if q.1=true then 1 else 0):=by
 intro q hq;have nC:=h.rest i hi (.inl (aH _));have h3:∀ x,x<R->owner.getD x 0=i->(aw R false).getD x false=true:=by
  intro x hx he;have:=h.ok.bwd x hx z8;rw[he,bY,nC]at this;omega
 obtain⟨a,b,c,d,e⟩:=PQ hL R (left.getD i []) i (aw R false) owner number (by rw[B1];exact aH _) Eb (hL.get _).2 hi h.ok h3 q hq;obtain⟨_,g⟩:=PY hL (D:=D) R (left.getD i []) i (aw R false) owner number (hL.get _).2 h.cl;rw[hq]at g;have dj:yO left R D q.2.2.1:=by
  intro y hy hD;rw[g y hy hD];exact h.cl y hy hD
 cases hb:q.1 with
 |true =>
  have hE:=a hb;obtain⟨y,y1,y2,y3,y4,y5,y6⟩:=hE.me;refine⟨⟨D,⟨hE.hO,hE.hN,hE.fR,?_,?_⟩,?_,dj,?_⟩,?_⟩
  ·intro j hj h0;by_cases dt:j=i
   ·subst dt;rw[y2,bY];exact⟨z8,y3,y4⟩
   ·exact hE.fwd j hj dt h0
  ·intro x hx h0;by_cases Cc:q.2.2.1.getD x 0=i
   ·rcases y6 x hx Cc with rfl|h'
    ·rw[Cc,bY,y2]
    ·rw[rP]at h';simp at h'
   ·exact hE.bwd x hx h0 Cc
  ·intro j hj mU;have dt:j≠i:=by rcases mU with h|h<;>omega
   have hr:=h.rest j hj (by rcases mU with h|h<;>omega);have:=hE.pos j hj dt;have:=hE.fR j hj;omega
  ·intro j hj eE vH h0 z hz;have dt:j≠i:=by intro e;subst e;omega
   have:=hE.pos j eE dt;exact h.dead j z8 eE vH z8 z hz
  ·rw[if_pos rfl];refine Cb i hi (λj hj dt=>?_) ?_ ?_
   ·have:=hE.pos j hj dt;simp only[on,this]
   ·rw[on,y2];exact decide_eq_true z8
   ·simp only[on,nC];rfl
 |false =>
  have hF:=b hb;rw[hF.eo,hF.en];refine⟨⟨λx=>D x\/q.2.1.getD x false=true,h.ok,λj hj mU=>h.rest j hj (by rcases mU with h|h<;>omega),?_,?_⟩,Eb⟩
  ·intro x hx hD;rcases hD with hD|hD
   ·obtain⟨k,l⟩:=h.cl x hx hD;exact⟨k,λy hy=>.inl (l y hy)⟩
   ·rcases hF.cl x hx hD with h'|⟨k,l⟩
    ·rw[rP]at h';simp at h'
    ·exact⟨k,λy hy=>.inr (l y hy)⟩
  ·intro j hj eE vH h0 z hz;by_cases dt:j=i
   ·subst dt;exact .inr (hF.all z hz)
   ·exact .inl (h.dead j z8 eE vH h0 z hz)
def Cd{left:List (List Int)}{R:Nat}(hL:dD R left){w:Int}:∀ (c i k:Nat) (owner number:List Int) (D:Nat->Prop),i+c=left.length->Inv left R w i owner number D ->
  (∃ D',Inv left R w left.length (nU left R w c i owner number).1 (nU left R w c i owner number).2 D')/\oY left R w c i k owner+cn left.length (on number)=k+cn left.length (on (nU left R w c i owner number).2)
 |0,i,k,owner,number,D,hi,h=>by
  rw[nU,oY];obtain rfl:i=left.length:=z8;exact⟨⟨D,h⟩,rfl⟩
 |c+1,i,k,owner,number,D,hi,h=>by
  rw[nU,oY];by_cases hw:(i:Int)=w
  ·rw[if_pos hw,if_pos hw];exact Cd hL c (i+1) k owner number D z8 { h with
    rest:=λj hj mU=>h.rest j hj (by rcases mU with h|h<;>omega)
    dead:=λj hj eE vH h0=>h.dead j z8 eE vH h0 }
  ·rw[if_neg hw,if_neg hw];obtain⟨⟨D',hI⟩,hc⟩:=h.step hL z8 hw _ rfl;obtain⟨e1,e2,e3,e4⟩:=yJ left R (left.getD i []) i (aw R false) owner number;simp only;rw[<- e1,<- e3];obtain⟨a,b⟩:=Cd hL c (i+1) (if(dc left R (left.getD i []) i (aw R false) owner number).1=true then k+1 else k) _ _ D' z8 hI;refine⟨a,?_⟩;split at hc<;>simp_all<;>omega
def rT(left:List (List Int))(R:Nat)(w:Int):List Int×List Int:=nU left R w left.length 0 (aw R (-1)) (aw left.length (-1))
def rU{left:List (List Int)}{R:Nat}(hL:dD R left)(w:Int):(∃ D,Inv left R w left.length (rT left R w).1 (rT left R w).2 D)/\size left R w=cn left.length (on (rT left R w).2):=by
 have h0:Inv left R w 0 (aw R (-1)) (aw left.length (-1)) (λ_=>False):=by
  refine⟨⟨eQ.rep _ _,Eb,?_,?_,?_⟩,?_,?_,?_⟩
  ·intro j hj;rw[vF _ _ _ _ hj];omega
  ·intro j hj h;rw[vF _ _ _ _ hj]at h;omega
  ·intro j hj h;rw[vF _ _ _ _ hj]at h;omega
  ·intro j hj _;rw[vF _ _ _ _ hj]
  ·intro x _ h;exact h.elim
  ·intro j hj;omega
 obtain⟨a,b⟩:=Cd hL left.length 0 0 _ _ _ z8 h0;refine⟨a,?_⟩;have:cn left.length (on (aw left.length (-1)))=0:=Jz λi hi=>by rw[on,vF _ _ _ _ hi];rfl
 rw[size];unfold rT;omega
def JC(left:List (List Int))(R:Nat):∀ (c i:Nat) (owner number:List Int),nU left R (-1) c i owner number=l6 left R c i owner number
 |0,i,owner,number=>rfl
 |c+1,i,owner,number=>by
  rw[nU,l6,if_neg z8];exact JC left R c (i+1) _ _
def yP(left:List (List Int))(R:Nat):rT left R (-1)=dV left R:=JC _ _ _ _ _ _
def vI{left:List (List Int)}{R:Nat}{owner number:List Int}(h:oZ left R owner number){T D:Nat->Bool}(hT:∀ i,i<left.length->T i=true->∀ y∈left.getD i [],D y.toNat=true):
  cn left.length (λi=>T i&&on number i)<=cn R (λx=>D x&&decide (0<=owner.getD x 0)&&T (owner.getD x 0).toNat):=by
 refine JB (λi=>(number.getD i 0).toNat) (λi hi hp=>?_) (λi j hi hj hp hq he=>?_)
 ·simp only[bb,on,decide_eq_true_eq]at hp;obtain⟨a,b,c⟩:=h.fwd i hi hp.2;refine⟨z8,?_⟩;simp only[b,bY,hp.1,hT i hi hp.1 _ c,fH,Bool.and_true,decide_eq_true_eq];omega
 ·simp only[bb,on,decide_eq_true_eq]at hp hq;obtain⟨a,b,c⟩:=h.fwd i hi hp.2;obtain⟨a',b',c'⟩:=h.fwd j hj hq.2;try dsimp only at he
  rw[he]at b;omega
def yQ{left:List (List Int)}{R:Nat}{owner number:List Int}(h:oZ left R owner number){T D:Nat->Bool}(hD:∀ x,x<R->D x=true->0<=owner.getD x 0/\T (owner.getD x 0).toNat=true):
  cn R D<=cn left.length (λi=>T i&&on number i):=by
 refine JB (λx=>(owner.getD x 0).toNat) (λx hx hp=>?_) (λx y hx hy hp hq he=>?_)
 ·obtain⟨a,b⟩:=hD x hx hp;have hg:=h.hO.get hx;refine⟨z8,?_⟩;simp only[b,fH,on,decide_eq_true_eq];rw[h.bwd x hx a];omega
 ·obtain⟨a,b⟩:=hD x hx hp;obtain⟨a',b'⟩:=hD y hy hq;have e1:=h.bwd x hx a;have e2:=h.bwd y hy a';try dsimp only at he
  rw[he]at e1;omega
def vJ{list:List Int}:∀ (l q:List Int) (used av:List Bool),(∀ i,i∈q->i∈(eA list l q used av).1)/\(∀ x,used.getD x false=true->(eA list l q used av).2.1.getD x false=true)/\(∀ i,av.getD i false=true->(eA list l q used av).2.2.getD i false=true)
 |[],q,used,av=>⟨λ_ h=>h,λ_ h=>h,λ_ h=>h⟩
 |n::r,q,used,av=>by
  have hm:∀ (l:List Bool) (k x:Nat),l.getD x false=true->(l.set k true).getD x false=true:=λl k x h=>by
   by_cases hk:k<l.length
   ·rw[l7 _ _ _ _ _ hk];split<;>simp_all
   ·rw[List.set_eq_of_length_le z8];exact h
  rw[eA];split
  ·obtain⟨a,b,c⟩:=vJ (list:=list) r (q++[list.getD n.toNat 0]) (used.set n.toNat true) (av.set (list.getD n.toNat 0).toNat true);exact⟨λi h=>a i (by simp[h]),λx h=>b x (hm _ _ _ h),λx h=>c x (hm _ _ _ h)⟩
  ·obtain⟨a,b,c⟩:=vJ (list:=list) r q (used.set n.toNat true) av;exact⟨a,λx h=>b x (hm _ _ _ h),c⟩
def Ce{list:List Int}{n R:Nat}(ho:eQ n R list):∀ (l q:List Int) (used av:List Bool),(∀ x∈l,0<=x/\x<R)->used.length=R->av.length=n ->
  (∀ i,(eA list l q used av).2.2.getD i false=true->av.getD i false=true\/(i:Int)∈(eA list l q used av).1) /\
  (∀ x∈l,(eA list l q used av).2.1.getD x.toNat false=true) /\
  (∀ x,(eA list l q used av).2.1.getD x false=true->used.getD x false=true\/(0<=list.getD x 0->(eA list l q used av).2.2.getD (list.getD x 0).toNat false=true)) /\
  ∀ (T E:Nat->Prop),(∀ x,E x->0<=list.getD x 0->T (list.getD x 0).toNat)->(∀ x∈l,E x.toNat)->(∀ i,av.getD i false=true->T i)->(∀ x,used.getD x false=true->E x)->(∀ i∈q,T i.toNat) ->
   (∀ i,(eA list l q used av).2.2.getD i false=true->T i)/\(∀ x,(eA list l q used av).2.1.getD x false=true->E x)/\∀ i∈(eA list l q used av).1,T i.toNat
 |[],q,used,av,_,_,_=>⟨λ_ h=>.inl h,by simp[eA],λ_ h=>.inl h,λT E _ _ h1 h2 h3=>⟨h1,h2,h3⟩⟩
 |m::r,q,used,av,hl,hu,hi=>by
  have hx:=hl m Eb;have hr:∀ x∈r,0<=x/\x<R:=λy hy=>hl y (by simp[hy]);have vD:=ho.get (x:=m.toNat) z8;have vK:m.toNat<used.length:=z8;have iL:∀ (E:Nat->Prop),E m.toNat->(∀ x,used.getD x false=true->E x)->∀ x,(used.set m.toNat true).getD x false=true->E x:=λE h1 h2 x h=>by
   rw[l7 _ _ _ _ _ vK]at h;split at h
   ·rename_i e;subst e;exact h1
   ·exact h2 x h
  rw[eA];split
  ·rename_i hc;have fe:(list.getD m.toNat 0).toNat<av.length:=z8;obtain⟨m1,m2,m3⟩:=vJ (list:=list) r (q++[list.getD m.toNat 0]) (used.set m.toNat true) (av.set (list.getD m.toNat 0).toNat true);obtain⟨a,b,c,d⟩:=Ce ho r (q++[list.getD m.toNat 0]) (used.set m.toNat true) (av.set (list.getD m.toNat 0).toNat true) hr (by simpa using hu) (by simpa using hi);refine⟨λi h=>?_,λx hx=>?_,λx h=>?_,λT E o9 tK h1 h2 h3=>?_⟩
   ·rcases a i h with h'|h'
    ·rw[l7 _ _ _ _ _ fe]at h';split at h'
     ·rename_i e;right;refine m1 _ ?_;rw[e,bn,bB];right;omega
     ·exact .inl h'
    ·exact .inr h'
   ·rcases cI.1 hx with rfl|hx
    ·exact m2 _ (ln _ _ _ _ vK)
    ·exact b x hx
   ·rcases c x h with h'|h'
    ·rw[l7 _ _ _ _ _ vK]at h';split at h'
     ·rename_i e;right;subst e;intro _;exact m3 _ (ln _ _ _ _ fe)
     ·exact .inl h'
    ·exact .inr h'
   ·have JD:T (list.getD m.toNat 0).toNat:=o9 _ (tK m Eb) hc.1;refine d T E o9 (λx hx=>tK x (by simp[hx])) (λi h=>?_) (iL E (tK m Eb) h2) (λi hi'=>?_)
    ·rw[l7 _ _ _ _ _ fe]at h;split at h
     ·rename_i e;subst e;exact JD
     ·exact h1 i h
    ·rcases bn.1 hi' with h|h
     ·exact h3 i h
     ·simp only[bB]at h;subst h;exact JD
  ·rename_i hc;obtain⟨m1,m2,m3⟩:=vJ (list:=list) r q (used.set m.toNat true) av;obtain⟨a,b,c,d⟩:=Ce ho r q (used.set m.toNat true) av hr (by simpa using hu) hi;refine⟨a,λx hx=>?_,λx h=>?_,λT E o9 tK h1 h2 h3=>?_⟩
   ·rcases cI.1 hx with rfl|hx
    ·exact m2 _ (ln _ _ _ _ vK)
    ·exact b x hx
   ·rcases c x h with h'|h'
    ·rw[l7 _ _ _ _ _ vK]at h';split at h'
     ·rename_i e;right;subst e;intro h0;refine m3 _ ?_;cases hh:av.getD (list.getD m.toNat 0).toNat false with
      |true=>rfl
      |false=>exact absurd ⟨h0,hh⟩ hc
     ·exact .inl h'
    ·exact .inr h'
   ·exact d T E o9 (λx hx=>tK x (by simp[hx])) h1 (iL E (tK m Eb) h2) h3
theorem JE{left:List (List Int)}{list:List Int}{R:Nat}(hL:dD R left)(ho:eQ left.length R list):∀ (f:Nat) (q:List Int) (used av:List Bool),q.length+fP av<=f->(∀ x∈q,0<=x/\x<left.length)->used.length=R->av.length=left.length ->
  (∀ i,i<left.length->av.getD i false=true->(i:Int)∈q\/∀ x∈left.getD i [],used.getD x.toNat false=true)->(∀ x,used.getD x false=true->0<=list.getD x 0->av.getD (list.getD x 0).toNat false=true) ->
  ∀ z,ll left list f q used av=z->z.1.length=R/\z.2.length=left.length/\(∀ i,av.getD i false=true->z.2.getD i false=true)/\(∀ i,i<left.length->z.2.getD i false=true->∀ x∈left.getD i [],z.1.getD x.toNat false=true)/\(∀ x,z.1.getD x false=true->0<=list.getD x 0->z.2.getD (list.getD x 0).toNat false=true) /\
   ∀ (T E:Nat->Prop),(∀ x,E x->0<=list.getD x 0->T (list.getD x 0).toNat)->(∀ i,T i->∀ x∈left.getD i [],E x.toNat)->(∀ i,av.getD i false=true->T i)->(∀ x,used.getD x false=true->E x)->(∀ i∈q,T i.toNat)->(∀ i,z.2.getD i false=true->T i)/\∀ x,z.1.getD x false=true->E x
 |0,q,used,av,hf,hq,hu,hi,h1,h2,z,hz=>by
  have:q=[]:=List.eq_nil_of_length_eq_zero (by omega);subst this;rw[ll]at hz;subst hz;exact⟨hu,hi,fun _ h=>h,fun i hi' h=>(h1 i hi' h).resolve_left (by simp),h2,fun T E _ _ a b _=>⟨a,b⟩⟩
 |f+1,[],used,av,hf,hq,hu,hi,h1,h2,z,hz=>by
  rw[ll]at hz;subst hz;exact⟨hu,hi,fun _ h=>h,fun i hi' h=>(h1 i hi' h).resolve_left (by simp),h2,fun T E _ _ a b _=>⟨a,b⟩⟩
 |f+1,i::q,used,av,hf,hq,hu,hi,h1,h2,z,hz=>by
  rw[ll]at hz;have tL:=hq i (by simp);have hl:=(hL.get i.toNat).2;obtain⟨k1,k2,k3,k4⟩:=yK ho (left.getD i.toNat []) q used av hl (fun x hx=>hq x (by simp[hx])) hu hi;obtain⟨m1,m2,m3⟩:=vJ (list:=list) (left.getD i.toNat []) q used av;obtain⟨a,b,c,d⟩:=Ce ho (left.getD i.toNat []) q used av hl hu hi;generalize hy:eA list (left.getD i.toNat []) q used av=y at *;try dsimp only at hz
  have dq:q.length+1+fP av<=f+1:=hf;obtain⟨r1,r2,r3,r4,r5,r6⟩:=JE hL ho f y.1 y.2.1 y.2.2 (by omega) k1 k2 k3 (fun j hj h=>by
    rcases a j h with h'|h'
    ·rcases h1 j hj h' with ja|ja
     ·rcases List.mem_cons.1 ja with e|ja
      ·right;intro x hx;have:i.toNat=j:=by omega
       rw[<- this]at hx;exact b x hx
      ·exact .inl (m1 _ ja)
     ·exact .inr fun x hx=>m2 _ (ja x hx)
    ·exact .inl h') (fun x h h0=>by
    rcases c x h with h'|h'
    ·exact m3 _ (h2 x h' h0)
    ·exact h' h0) z hz
  refine⟨r1,r2,fun i h=>r3 i (m3 i h),r4,r5,fun T E o9 yR h3 h4 h5=>?_⟩;obtain⟨d1,d2,d3⟩:=d T E o9 (fun x hx=>yR _ (h5 i (by simp)) x hx) h3 h4 (fun j hj=>h5 j (by simp[hj]));exact r6 T E o9 yR d1 d2 d3
def JF(n:Nat)(p:Nat->Bool):cn (n+1) p=(if p 0=true then 1 else 0)+cn n (λi=>p (i+1)):=by
 induction n with
 |zero=>rw[jb,B9,B9];omega
 |succ n ih=>rw[jb,ih,jb (n:=n)];omega
def Cf{α:Type}(p:α->Bool)(d:α):∀ l:List α,l.countP p=cn l.length (λi=>p (l.getD i d))
 |[]=>rfl
 |a::l=>by
  rw[List.countP_cons,Cf p d l,b8,JF];simp only[gH,fJ];omega
def Cg(l:List Bool):∀ k,(ca l k).length=cn l.length (λi=>l.getD i false):=by
 induction l with
 |nil=>intro k;rfl
 |cons b r ih =>
  intro k;rw[ca,b8,JF];simp only[gH,fJ];split
  ·rw[b8,ih];omega
  ·rw[ih];omega
def JG(l:List Bool):∀ (k i:Nat),l.getD i false=true->((k+i:Nat):Int)∈ca l k:=by
 induction l with
 |nil=>intro k i h;simp at h
 |cons b r ih =>
  intro k i h;rw[ca];cases i with
  |zero =>
   rw[gH]at h;rw[if_pos h];simp
  |succ i =>
   rw[fJ]at h;have:=ih (k+1) i h;rw[show k+1+i=k+(i+1) by omega]at this;split
   ·exact List.mem_cons_of_mem _ this
   ·exact this
def P0{number:List Int}{i:Nat}(hi:i<number.length):(fQ number).getD i false = !on number i:=by
 rw[fQ,on,an,bR,aN hi,an,aN hi];simp only[Option.map_some,dg];by_cases h:number[i]<0
 ·rw[decide_eq_true h,decide_eq_false z8];rfl
 ·rw[decide_eq_false h,decide_eq_true z8];rfl
structure Reach(left:List (List Int))(R:Nat)(owner number:List Int)(used av:List Bool):Prop where
 lu:used.length=R
 li:av.length=left.length
 g1:∀ i,i<left.length->on number i=false->av.getD i false=true
 g2:∀ i,i<left.length->av.getD i false=true->∀ x∈left.getD i [],used.getD x.toNat false=true
 g3:∀ x,used.getD x false=true->0<=owner.getD x 0->av.getD (owner.getD x 0).toNat false=true
 g4:∀ (T E:Nat->Prop),(∀ x,E x->0<=owner.getD x 0->T (owner.getD x 0).toNat)->(∀ i,T i->∀ x∈left.getD i [],E x.toNat)->(∀ i,i<left.length->on number i=false->T i)->(∀ i,av.getD i false=true->T i)/\∀ x,used.getD x false=true->E x
def reach{left:List (List Int)}{R:Nat}(hL:dD R left){owner number:List Int}(h:oZ left R owner number):∀ z,ll left owner left.length (ca (fQ number) 0) (aw R false) (fQ number)=z->Reach left R owner number z.1 z.2:=by
 intro z hz;have vL:(fQ number).length=left.length:=by rw[fQ,cU,h.hN]
 have aZ:∀ i,(fQ number).getD i false=true->i<left.length:=λi hi=>by
  rcases cZ i (fQ number).length with h'|h'
  ·omega
  ·rw[an,gI h']at hi;simp at hi
 have pW:∀ i,i<left.length->(fQ number).getD i false = !on number i:=λi hi=>P0 (by rw[h.hN];exact hi);obtain⟨r1,r2,r3,r4,r5,r6⟩:=JE hL h.hO left.length (ca (fQ number) 0) (aw R false) (fQ number) (by rw[B3,vL];exact aH _) (λx hx=>by
  have:=qe _ _ x hx;rw[vL]at this;omega) Eb vL (λi hi hh=>.inl (by have:=JG (fQ number) 0 i hh;simpa using this)) (λx hx=>by rw[rP]at hx;simp at hx) z hz
 refine⟨r1,r2,λi hi hh=>r3 i (by rw[pW i hi,hh];rfl),r4,r5,λT E o9 yR h1=>?_⟩;refine r6 T E o9 yR (λi hi=>?_) (λx hx=>by rw[rP]at hx;simp at hx) (λi hi=>?_)
 ·have hl:=aZ i hi;rw[pW i hl]at hi;exact h1 i hl (by simpa using hi)
 ·have:=qe _ _ i hi;obtain⟨j,rfl⟩:∃j:Nat,i=j:=⟨i.toNat,z8⟩;rw[bY];have key:∀ (l:List Bool) (k j:Nat),(j:Int)∈ca l k->l.getD (j-k) false=true:=by
   intro l
   induction l with
   |nil=>intro k j hj;simp[ca]at hj
   |cons b r ih =>
    intro k j hj;rw[ca]at hj;have vM:(j:Int)∈ca r (k+1)->(b::r).getD (j-k) false=true:=λhj=>by
     have hr:=qe _ _ _ hj;have:=ih _ _ hj;rw[show j-k=(j-(k+1))+1 by omega,fJ];exact this
    split at hj
    ·rename_i hb;rcases cI.1 hj with e|hj
     ·rw[show j-k=0 by omega,gH];exact hb
     ·exact vM hj
    ·exact vM hj
  have hk:=key _ _ _ hi;rw[Nat.sub_zero]at hk;have hl:=aZ j hk;rw[pW j hl]at hk;exact h1 j hl (by simpa using hk)
noncomputable def pb(D:Nat->Prop)(x:Nat):Bool:=@decide (D x) (Classical.propDecidable _)
def gD{D:Nat->Prop}{x:Nat}:pb D x=true↔D x:=by
 unfold pb;exact @decide_eq_true_iff _ (Classical.propDecidable _)
section
variable {left:List (List Int)} {R:Nat} {owner number:List Int} {used av:List Bool} {D:Nat->Prop}
def Reach.P1(hL:dD R left)(h:Inv left R (-1) left.length owner number D)(hr:Reach left R owner number used av):∀ x,used.getD x false=true->x<R/\0<=owner.getD x 0:=by
 intro x hx;obtain⟨_,b⟩:=hr.g4 (λi=>∀ y∈left.getD i [],D y.toNat) (λx=>x<R/\D x) (λx hx h0=>(h.cl x hx.1 hx.2).2) (λi hi y hy=>⟨by have:=(hL.get i).2 y hy;omega,hi y hy⟩) (λi hi h0=>h.dead i hi hi z8 (by simpa [on] using h0));obtain⟨c,d⟩:=b x hx;exact⟨c,(h.cl x c d).1⟩
def Reach.count(hL:dD R left)(h:Inv left R (-1) left.length owner number D)(hr:Reach left R owner number used av):
  cn left.length (λi=>av.getD i false)=cn left.length (λi=>!on number i)+cn R (λx=>used.getD x false):=by
 rw[nT _ _ (on number)];have e1:cn left.length (λi=>av.getD i false&&!on number i)=cn left.length (λi=>!on number i):=mV λi hi=>by
  cases ho:on number i with
  |true=>simp
  |false=>rw[hr.g1 i hi ho];rfl
 have h1:=vI h.ok (T:=λi=>av.getD i false) (D:=λx=>used.getD x false) (λi hi hT=>hr.g2 i hi hT);have h2:cn R (λx=>used.getD x false&&decide (0<=owner.getD x 0)&&av.getD (owner.getD x 0).toNat false)<=cn R (λx=>used.getD x false):=o8 λi _ hi=>by simp only[bb]at hi;exact hi.1.1
 have h3:=yQ h.ok (T:=λi=>av.getD i false) (D:=λx=>used.getD x false) (λx hx hu=>by
  have:=(hr.P1 hL h x hu).2;exact⟨this,hr.g3 x hu this⟩)
 omega
def Reach.none(hr:Reach left R owner number used av)(h:∀ i,i<left.length->on number i=true):∀ i,av.getD i false=false:=by
 obtain⟨a,_⟩:=hr.g4 (λ_=>False) (λ_=>False) (λ_ h _=>h) (λ_ h=>h.elim) (λi hi h0=>by rw[h i hi]at h0;simp at h0);intro i;cases hh:av.getD i false with
 |false=>rfl
 |true=>exact(a i hh).elim
def Reach.group(hL:dD R left)(h:Inv left R (-1) left.length owner number D)(hr:Reach left R owner number used av)(hs:size left R (-1)=cn left.length (on number)){w:Nat}(hw:w<left.length):
  av.getD w false=decide (size left R w=size left R (-1)):=by
 obtain⟨⟨Dw,hW⟩,vN⟩:=rU hL (w:Int);generalize rT left R w=mw at hW vN;obtain⟨ow,nw⟩:=mw;dsimp only at hW vN;have JH:nw.getD w 0 = -1:=hW.rest w hw (.inr rfl);have hc:=hr.count hL h;have n1:=Ca left.length (on number);have n2:=Ca left.length (on nw);have uw:cn left.length (λi=>!on nw i)=cn left.length (λi=>decide (i≠w)&&!on nw i)+1:=by
  refine Cb w hw (λi hi bx=>by simp[bx]) ?_ Eb;simp only[on,JH];rfl
 generalize hU:cn left.length (λi=>!on number i)=U at *;generalize JI:cn left.length (λi=>decide (i≠w)&&!on nw i)=Uw at *;cases cR:av.getD w false with
 |false =>
  have k1:=vI hW.ok (T:=λi=>av.getD i false) (D:=λx=>used.getD x false) (λi hi hT=>hr.g2 i hi hT);have k2:cn R (λx=>used.getD x false&&decide (0<=ow.getD x 0)&&av.getD (ow.getD x 0).toNat false)<=cn R (λx=>used.getD x false):=o8 λi _ hi=>by simp only[bb]at hi;exact hi.1.1
  have k3:=nT left.length (λi=>av.getD i false) (on nw);have k4:cn left.length (λi=>av.getD i false&&!on nw i)<=Uw:=by
   rw[<- JI];refine o8 λi hi hp=>?_;simp only[bb]at hp ⊢;refine⟨?_,hp.2⟩;rw[decide_eq_true_eq];intro e;subst e;simp_all
  symm;rw[decide_eq_false_iff_not];omega
 |true =>
  symm;rw[decide_eq_true_eq];have a1:=yQ h.ok (T:=λi=>pb (λi=>∀ y∈left.getD i [],D y.toNat) i) (D:=pb D) (λx hx hD=>by
   obtain⟨c1,c2⟩:=h.cl x hx (gD.1 hD);exact⟨c1,gD.2 c2⟩)
  have a2:=vI hW.ok (T:=λi=>pb (λi=>∀ y∈left.getD i [],D y.toNat) i) (D:=pb D) (λi hi hT y hy=>gD.2 (gD.1 hT y hy));have a3:cn R (λx=>pb D x&&decide (0<=ow.getD x 0)&&pb (λi=>∀ y∈left.getD i [],D y.toNat) (ow.getD x 0).toNat)<=cn R (pb D):=o8 λi _ hi=>by simp only[bb]at hi;exact hi.1.1
  have a4:=nT left.length (λi=>pb (λi=>∀ y∈left.getD i [],D y.toNat) i) (on number);have a5:=nT left.length (λi=>pb (λi=>∀ y∈left.getD i [],D y.toNat) i) (on nw);have a6:cn left.length (λi=>pb (λi=>∀ y∈left.getD i [],D y.toNat) i&&!on number i)=U:=by
   rw[<- hU];refine mV λi hi=>?_;cases ho:on number i with
   |true=>simp
   |false =>
    have:pb (λi=>∀ y∈left.getD i [],D y.toNat) i=true:=gD.2 (h.dead i hi hi z8 (by simpa [on] using ho));rw[this];rfl
  have a7:cn left.length (λi=>pb (λi=>∀ y∈left.getD i [],D y.toNat) i&&!on nw i)<=Uw+1:=by
   rw[<- uw];refine o8 λi hi hp=>?_;simp only[bb]at hp;exact hp.2
  have b0:∀ x,x<R->Dw x->ow.getD x 0≠w:=λx hx hD e=>by
   have h0:=(hW.cl x hx hD).1;have:=hW.ok.bwd x hx h0;rw[e,bY,JH]at this;omega
  let Tw:Nat->Prop:=λi=>i≠w/\∀ y∈left.getD i [],Dw y.toNat
  have b1:=yQ hW.ok (T:=pb Tw) (D:=pb Dw) (λx hx hD=>by
   obtain⟨c1,c2⟩:=hW.cl x hx (gD.1 hD);have bx:=b0 x hx (gD.1 hD);exact⟨c1,gD.2 ⟨z8,c2⟩⟩)
  have b2:=vI h.ok (T:=pb Tw) (D:=pb Dw) (λi hi hT y hy=>gD.2 ((gD.1 hT).2 y hy));have b3:cn R (λx=>pb Dw x&&decide (0<=owner.getD x 0)&&pb Tw (owner.getD x 0).toNat)<=cn R (pb Dw):=o8 λi _ hi=>by simp only[bb]at hi;exact hi.1.1
  have b4:=nT left.length (pb Tw) (on number);have b5:=nT left.length (pb Tw) (on nw);have b6:cn left.length (λi=>pb Tw i&&!on nw i)=Uw:=by
   rw[<- JI];refine mV λi hi=>?_;cases ho:on nw i with
   |true=>simp
   |false =>
    by_cases yS:i=w
    ·have:pb Tw i=false:=by
      cases hp:pb Tw i with
      |false=>rfl
      |true=>exact absurd yS (gD.1 hp).1
     rw[this];simp[yS]
    ·have:pb Tw i=true:=gD.2 ⟨yS,hW.dead i hi hi z8 (by simpa [on] using ho)⟩;rw[this];simp[yS]
  have b7:cn left.length (λi=>pb Tw i&&!on number i)<=U:=by
   rw[<- hU];refine o8 λi hi hp=>?_;simp only[bb]at hp;exact hp.2
  by_cases aZ:Uw<U
  ·omega
  ·exfalso;have c1:=nT left.length (λi=>!on number i) (pb Tw);have c2:cn left.length (λi=>!on number i&&pb Tw i)=cn left.length (λi=>pb Tw i&&!on number i):=mV λi _=>Bool.and_comm _ _;have c3:cn left.length (λi=>!on number i&&!pb Tw i)=0:=z8;have c4:=nT R (pb Dw) (λx=>decide (0<=owner.getD x 0)&&pb Tw (owner.getD x 0).toNat);have c5:cn R (λx=>pb Dw x&&(decide (0<=owner.getD x 0)&&pb Tw (owner.getD x 0).toNat))=cn R (λx=>pb Dw x&&decide (0<=owner.getD x 0)&&pb Tw (owner.getD x 0).toNat):=mV λi _=>(Bool.and_assoc _ _ _).symm;have c6:cn R (λx=>pb Dw x&&!(decide (0<=owner.getD x 0)&&pb Tw (owner.getD x 0).toNat))=0:=z8;have c7:=B' c3;have c8:=B' c6;obtain⟨d,_⟩:=hr.g4 Tw (λx=>x<R/\Dw x) (λx hx h0=>by
    have:=c8 x hx.1;rw[gD.2 hx.2]at this;simp only[fH,D7,bb]at this;exact gD.1 this.2) (λi hi y hy=>⟨by have:=(hL.get i).2 y hy;omega,hi.2 y hy⟩) (λi hi h0=>by
    have:=c7 i hi;rw[h0]at this;simp only[Bool.not_false,fH,D7]at this;exact gD.1 this)
   exact(d w cR).1 rfl
end
def JJ:∀ (l:List Int) (av:List Bool) (x:Nat),(∀ y∈l,0<=y/\y.toNat<av.length)->((qf l av).getD x false=true↔av.getD x false=true\/(x:Int)∈l)
 |[],av,x,_=>by simp[qf]
 |y::r,av,x,h=>by
  have hy:=h y Eb;rw[qf,JJ r _ x (λz hz=>by have:=h z (by simp[hz]);simpa using this),l7 _ _ _ _ _ hy.2,cI];split
  ·rename_i e;have:(x:Int)=y:=z8;simp[this]
  ·rename_i e;have:(x:Int)≠y:=z8;simp[this]
def yT{left:List (List Int)}{R n:Nat}(hL:dD R left){av:List Bool}(hi:av.length=left.length)(hg:∀ w,w<left.length->av.getD w false=decide (size left R w=n)):∀ (c i:Nat) (g:List Int) (m:List Bool),i+c=left.length->m.length=R ->
  (nR left R n c i g m).1=g++ca (av.drop i) i/\(nR left R n c i g m).2.length=R/\∀ x,(nR left R n c i g m).2.getD x false=true↔m.getD x false=true\/∃ j,i<=j/\j<left.length/\av.getD j false=true/\(x:Int)∈left.getD j []
 |0,i,g,m,hc,hm=>by
  rw[nR,List.drop_eq_nil_of_le z8,ca,List.append_nil];refine⟨rfl,hm,λx=>?_⟩;constructor
  ·exact .inl
  ·rintro(h|⟨j,h1,h2,_⟩)
   ·exact h
   ·omega
 |c+1,i,g,m,hc,hm=>by
  have vO:=hg i z8;rw[nR,di av i false z8,ca];split
  ·rename_i hs;rw[decide_eq_true hs]at vO;obtain⟨a,b,d⟩:=yT hL hi hg c (i+1) (g++[(i:Int)]) (qf (left.getD i []) m) z8 (by rw[Jx];exact hm);rw[if_pos vO];refine⟨by rw[a];simp,b,λx=>?_⟩;rw[d x,JJ _ _ _ (λy hy=>by have:=(hL.get i).2 y hy;omega)];constructor
   ·rintro((h|h)|⟨j,h1,h2,h3,h4⟩)
    ·exact .inl h
    ·exact .inr ⟨i,aH _,z8,vO,h⟩
    ·exact .inr ⟨j,z8,h2,h3,h4⟩
   ·rintro(h|⟨j,h1,h2,h3,h4⟩)
    ·exact .inl (.inl h)
    ·by_cases dt:j=i
     ·subst dt;exact .inl (.inr h4)
     ·exact .inr ⟨j,z8,h2,h3,h4⟩
  ·rename_i hs;rw[decide_eq_false hs]at vO;obtain⟨a,b,d⟩:=yT hL hi hg c (i+1) g m z8 hm;rw[if_neg (by simp_all)];refine⟨a,b,λx=>?_⟩;rw[d x];constructor
   ·rintro(h|⟨j,h1,h2,h3,h4⟩)
    ·exact .inl h
    ·exact .inr ⟨j,z8,h2,h3,h4⟩
   ·rintro(h|⟨j,h1,h2,h3,h4⟩)
    ·exact .inl h
    ·by_cases dt:j=i
     ·subst dt;rw[vO]at h3;simp at h3
     ·exact .inr ⟨j,z8,h2,h3,h4⟩
def P2{a b:List Bool}(hl:a.length=b.length)(h:∀ x,a.getD x false=true↔b.getD x false=true):a=b:=by
 refine List.ext_getElem hl λi h1 h2=>?_;have:=h i;rw[an,aN h1,an,aN h2]at this;simp only[dg]at this;cases ha:a[i]<;>cases hb:b[i]<;>simp_all
def P3{left:List (List Int)}{R:Nat}(hL:dD R left):dL left R=B5 left R:=by
 obtain⟨⟨D,h⟩,hs⟩:=rU hL (-1);rw[yP]at h hs;have hr:=reach hL h.ok _ rfl;unfold dL B5;dsimp only;generalize ll left (dV left R).1 left.length (ca (fQ (dV left R).2) 0) (aw R false) (fQ (dV left R).2)=z at hr;obtain⟨a,b,c⟩:=yT (n:=size left R (-1)) hL hr.li (λw hw=>hr.group hL h hs hw) left.length 0 [] (aw R false) z8 Eb;rw[w8,g9]at a;rw[a];have:z.1=(nR left R (size left R (-1)) left.length 0 [] (aw R false)).2:=by
  refine P2 (by rw[hr.lu,b]) λx=>?_;rw[c x,rP];constructor
  ·intro hx;right;obtain⟨_,e⟩:=hr.g4 (λi=>z.2.getD i false=true) (λx=>∃ j,0<=j/\j<left.length/\z.2.getD j false=true/\(x:Int)∈left.getD j []) (λx ⟨j,_,h1,h2,h3⟩ h0=>by
     have:=hr.g2 j h1 h2 _ h3;rw[bY]at this;exact hr.g3 x this h0) (λi hi y hy=>by
     have cQ:i<left.length:=by
      rcases cZ i left.length with h'|h'
      ·exact h'
      ·rw[an,gI h']at hy;simp at hy
     have:=(hL.get i).2 y hy;exact⟨i,bk _,cQ,hi,by rw[iS this.1];exact hy⟩) (λi hi h0=>hr.g1 i hi h0)
   exact e x hx
  ·rintro(h|⟨j,_,h1,h2,h3⟩)
   ·simp at h
   ·have:=hr.g2 j h1 h2 _ h3;rwa [bY]at this
 rw[this]
def counts{left:List (List Int)}{R:Nat}(hL:dD R left):(dV left R).2.length=left.length/\((dV left R).2.countP (λx=>decide (x<0)))+(dL left R).2.length=(dL left R).1.length/\(0<(dV left R).2.countP (λx=>decide (x<0))\/(dL left R).1=[]):=by
 obtain⟨⟨D,h⟩,hs⟩:=rU hL (-1);rw[yP]at h hs;have hr:=reach hL h.ok _ rfl;have hc:=hr.count hL h;have hn:=h.ok.hN;have e:(dV left R).2.countP (λx=>decide (x<0))=cn left.length (λi=>!on (dV left R).2 i):=by
  rw[Cf _ 0,hn];refine mV λi hi=>?_;rw[on];by_cases h:(dV left R).2.getD i 0<0
  ·rw[decide_eq_true h,decide_eq_false z8];rfl
  ·rw[decide_eq_false h,decide_eq_true z8];rfl
 refine⟨hn,?_,?_⟩
 ·unfold dL;dsimp only;rw[Cg,Cg,hr.lu,hr.li,e];omega
 ·by_cases h0:cn left.length (λi=>!on (dV left R).2 i)=0
  ·right;have jB:=hr.none (λi hi=>by have:=B' h0 i hi;simpa using this);unfold dL;dsimp only;refine List.eq_nil_of_length_eq_zero ?_;rw[Cg];exact Jz λi _=>jB i
  ·left;omega
def P4{left:List (List Int)}{R:Nat}(hL:dD R left){w:Int}{ow nw:List Int}(h:oZ left R ow nw)(hw:∀ j,j<left.length->(j:Int)=w->nw.getD j 0<0):cn left.length (on nw)<=size left R w:=by
 obtain⟨⟨D,hI⟩,hs⟩:=rU hL w;generalize rT left R w=mw at hI hs;obtain⟨O,N⟩:=mw;dsimp only at hI hs;have b0:∀ x,x<R->D x->O.getD x 0≠w:=λx hx hD e=>by
  have h0:=(hI.cl x hx hD).1;have hb:=hI.ok.bwd x hx h0;have aZ:=(hI.ok.hO.get hx).2;have:=hI.rest (O.getD x 0).toNat z8 (.inr z8);rw[hb]at this;omega
 let T:Nat->Prop:=λi=>(i:Int)≠w/\∀ y∈left.getD i [],D y.toNat
 have a1:=yQ hI.ok (T:=pb T) (D:=pb D) (λx hx hD=>by
  obtain⟨c1,c2⟩:=hI.cl x hx (gD.1 hD);have:=b0 x hx (gD.1 hD);exact⟨c1,gD.2 ⟨z8,c2⟩⟩)
 have a2:=vI h (T:=pb T) (D:=pb D) (λi hi hT y hy=>gD.2 ((gD.1 hT).2 y hy));have a3:cn R (λx=>pb D x&&decide (0<=ow.getD x 0)&&pb T (ow.getD x 0).toNat)<=cn R (pb D):=o8 λi _ hi=>by simp only[bb]at hi;exact hi.1.1
 have a4:=nT left.length (on nw) (pb T);have a5:=nT left.length (on N) (pb T);have a6:cn left.length (λi=>on nw i&&pb T i)=cn left.length (λi=>pb T i&&on nw i):=mV λi _=>Bool.and_comm _ _;have a7:cn left.length (λi=>on N i&&pb T i)=cn left.length (λi=>pb T i&&on N i):=mV λi _=>Bool.and_comm _ _;have a8:cn left.length (λi=>on nw i&&!pb T i)<=cn left.length (λi=>on N i&&!pb T i):=o8 λi hi hp=>by
  simp only[bb,fU]at hp ⊢;refine⟨?_,hp.2⟩;cases ho:on N i with
  |true=>rfl
  |false =>
   exfalso;have bx:(i:Int)≠w:=λe=>by
    have:=hw i hi e;have h2:=hp.1;rw[on,decide_eq_true_eq]at h2;omega
   have:pb T i=true:=gD.2 ⟨bx,hI.dead i hi hi bx (by simpa [on] using ho)⟩;rw[this]at hp;simp at hp
 omega
def kH(f:Nat->Nat)(N:List Int):List Int:=N.map λn=>if n<0 then -1 else(f n.toNat:Int)
def pc(n R':Nat)(N:List Int):List Int:=(bj R').map λx:Nat=>match (bj n).find? (λj=>decide (N.getD j 0=(x:Int))) with|some j=>(j:Int)|none=>-1
def JK{f:Nat->Nat}{N:List Int}{j:Nat}(h:j<N.length):(kH f N).getD j 0=if N.getD j 0<0 then -1 else(f (N.getD j 0).toNat:Int):=by
 rw[kH,an,bR,aN h,an,aN h];rfl
def Ch{n R':Nat}{N:List Int}{x:Nat}(hx:x<R'):(∃ j,j<n/\N.getD j 0=x/\(pc n R' N).getD x 0=(j:Nat))\/((pc n R' N).getD x 0 = -1/\∀ j,j<n->N.getD j 0≠x):=by
 have e:(pc n R' N).getD x 0=match (bj n).find? (λj=>decide (N.getD j 0=(x:Int))) with|some j=>(j:Int)|none=>-1:=by
  rw[pc,an,bR,List.getElem?_range hx];rfl
 cases hf:(bj n).find? (λj=>decide (N.getD j 0=(x:Int))) with
 |some j =>
  rw[hf]at e;have h1:=List.find?_some hf;have h2:=List.mem_of_find?_eq_some hf;rw[decide_eq_true_eq]at h1;exact .inl ⟨j,jM.1 h2,h1,e⟩
 |none =>
  rw[hf]at e;rw[List.find?_eq_none]at hf;exact .inr ⟨e,λj hj he=>absurd (decide_eq_true he) (hf j (jM.2 hj))⟩
structure Ci(left pd:List (List Int))(R':Nat)(f:Nat->Nat):Prop where
 len:pd.length=left.length
 to:∀ i,i<left.length->∀ x:Nat,(x:Int)∈left.getD i []->f x<R'/\(f x:Int)∈pd.getD i []
 inj:∀ i j,i<left.length->j<left.length->∀ x y:Nat,(x:Int)∈left.getD i []->(y:Int)∈left.getD j []->f x=f y->x=y
def oZ.aG{left pd:List (List Int)}{R R':Nat}{f:Nat->Nat}{owner number:List Int}(h:oZ left R owner number)(hf:Ci left pd R' f):
  oZ pd R' (pc left.length R' (kH f number)) (kH f number)/\∀ i,i<left.length->on (kH f number) i=on number i:=by
 have hl:=hf.len;have hg:∀ j,j<left.length->(kH f number).getD j 0=if number.getD j 0<0 then -1 else(f (number.getD j 0).toNat:Int):=λj hj=>JK (by rw[h.hN];exact hj);have JL:∀ j,j<left.length->0<=(kH f number).getD j 0->0<=number.getD j 0/\(kH f number).getD j 0=f (number.getD j 0).toNat/\(((number.getD j 0).toNat:Nat):Int)∈left.getD j []/\owner.getD (number.getD j 0).toNat 0=j:=λj hj h0=>by
  rw[hg j hj]at h0 ⊢;split at h0
  ·omega
  ·rename_i hn;obtain⟨a,b,c⟩:=h.fwd j hj z8;rw[if_neg hn];exact⟨z8,rfl,by rw[iS z8];exact c,b⟩
 refine⟨⟨⟨by simp[pc],λo ho=>?_⟩,by rw[kH,cU,h.hN,hl],λj hj=>?_,λj hj h0=>?_,λx hx h0=>?_⟩,λi hi=>?_⟩
 ·obtain⟨x,hx,rfl⟩:=List.mem_iff_getElem.1 ho;have bF:x<R':=by simpa [pc] using hx
  have e:(pc left.length R' (kH f number))[x]=(pc left.length R' (kH f number)).getD x 0:=by rw[an,aN hx];rfl
  rw[e];rcases Ch (n:=left.length) (N:=kH f number) bF with⟨j,h1,h2,h3⟩|⟨h3,_⟩<;>rw[h3]<;>omega
 ·rw[hg j z8];split<;>omega
 ·obtain⟨a,b,c,d⟩:=JL j z8 h0;obtain⟨p,q⟩:=hf.to j z8 _ c;rw[b,bY];refine⟨z8,?_,q⟩;rcases Ch (n:=left.length) (N:=kH f number) p with⟨k,h1,h2,h3⟩|⟨_,h3⟩
  ·rw[h3];obtain⟨a',b',c',d'⟩:=JL k h1 z8;have:=hf.inj k j h1 z8 _ _ c' c z8;rw[this,d]at d';omega
  ·exact absurd b (h3 j z8)
 ·rcases Ch (n:=left.length) (N:=kH f number) hx with⟨k,h1,h2,h3⟩|⟨h3,_⟩
  ·rw[h3,bY];exact h2
  ·omega
 ·rw[on,on,hg i hi];split
  ·rw[decide_eq_false z8,decide_eq_false z8]
  ·rw[decide_eq_true z8,decide_eq_true z8]
def JM{left pd:List (List Int)}{R R':Nat}{f:Nat->Nat}(hL:dD R left)(vd:dD R' pd)(hf:Ci left pd R' f)(w:Int):size left R w<=size pd R' w:=by
 obtain⟨⟨D,hI⟩,hs⟩:=rU hL w;obtain⟨h1,h2⟩:=hI.ok.aG hf;have:=P4 vd h1 (w:=w) (λj hj e=>by
  rw[hf.len]at hj;rw[JK (by rw[hI.ok.hN];exact hj),hI.rest j hj (.inr e)];simp)
 rw[hf.len,mV h2]at this;omega
def JN{left:List (List Int)}{R:Nat}(hL:dD R left):∃av m:List Bool,av.length=left.length/\m.length=R/\dL left R=(ca av 0,ca m 0) /\
  (∀ w,w<left.length->av.getD w false=decide (size left R w=size left R (-1)))/\∀ x,m.getD x false=true↔∃ j,j<left.length/\av.getD j false=true/\(x:Int)∈left.getD j []:=by
 obtain⟨⟨D,h⟩,hs⟩:=rU hL (-1);rw[yP]at h hs;have hr:=reach hL h.ok _ rfl;rw[P3 hL];generalize ll left (dV left R).1 left.length (ca (fQ (dV left R).2) 0) (aw R false) (fQ (dV left R).2)=z at hr;obtain⟨a,b,c⟩:=yT (n:=size left R (-1)) hL hr.li (λw hw=>hr.group hL h hs hw) left.length 0 [] (aw R false) z8 Eb;rw[w8,g9]at a;refine⟨z.2,_,hr.li,b,by rw[B5,a],λw hw=>hr.group hL h hs hw,λx=>?_⟩;rw[c x,rP];constructor
 ·rintro(h|⟨j,_,h⟩)
  ·simp at h
  ·exact⟨j,h⟩
 ·rintro⟨j,h⟩;exact .inr ⟨j,bk _,h⟩
def P5{left:List (List Int)}{R:Nat}(hL:dD R left)(h:(dL left R).1≠[]):(dL left R).2.length<(dL left R).1.length:=by
 obtain⟨_,a,b⟩:=counts hL;rcases b with b|b
 ·omega
 ·exact absurd b h
def JO{l:List Bool}{x:Nat}:(x:Int)∈ca l 0↔l.getD x false=true:=by
 constructor
 ·intro h;have key:∀ (l:List Bool) (k j:Nat),(j:Int)∈ca l k->l.getD (j-k) false=true:=by
   intro l
   induction l with
   |nil=>intro k j hj;simp[ca]at hj
   |cons b r ih =>
    intro k j hj;rw[ca]at hj;have vM:(j:Int)∈ca r (k+1)->(b::r).getD (j-k) false=true:=λhj=>by
     have hr:=qe _ _ _ hj;have:=ih _ _ hj;rw[show j-k=(j-(k+1))+1 by omega,fJ];exact this
    split at hj
    ·rename_i hb;rcases cI.1 hj with e|hj
     ·rw[show j-k=0 by omega,gH];exact hb
     ·exact vM hj
    ·exact vM hj
  exact key l 0 x h
 ·intro h;have:=JG l 0 x h;simpa using this
def P6(l:List Bool):∀ k,(ca l k).Pairwise (· < ·):=by
 induction l with
 |nil=>intro k;exact .nil
 |cons b r ih =>
  intro k;rw[ca];split
  ·exact List.pairwise_cons.2 ⟨λx hx=>by have:=qe r (k+1) x hx;omega,ih (k+1)⟩
  ·exact ih (k+1)
end T

