import Derived.Test.YtfoopmojjjpapaaGreatX07
set_option linter.all false
set_option maxHeartbeats 0
set_option maxRecDepth 20000
open Int renaming tmod_eq_emod_of_nonneg→Jm,mul_nonneg→tQ,mul_le_mul_of_nonneg_right→Fq,mul_le_mul→u6,le_refl→mP
open List renaming getD_eq_getElem?_getD→az,getElem?_eq_getElem→bS,getElem_mem→rS,replicate→aI,getElem?_eq_none→fY,length_set→bH,mem_or_eq_of_mem_set→tK,eq_of_mem_replicate→Ft,any_eq_true→u7,mem_cons→a8,length_cons→cV,length_nil→nr,nil_append→iH,cons_append→e9,mem_append→da,mem_singleton→dI
open Nat renaming lt_or_ge→dw
open Bool renaming and_eq_true→a7,not_eq_true'→lg
open Option renaming some→cy
open Go Go.Am
namespace T
def Rc:=aa' @cU @fU @RC @RD @KI @KJ @Dz
def jv(x:Int):Prop:=-9223372036854775808<=x/\x<=9223372036854775807
def yI(n m:Int):Int:=if m<1 then 0 else n%m
def aix(n m:Int)(hm:0<m):0<=yI n m/\yI n m<m:=by
 unfold yI;rw[if_neg CZ];exact⟨Int.emod_nonneg _ CZ,Int.emod_lt_of_pos _ CZ⟩
def Mt(n m:Int)(hm:0<m):(n.tmod m<0->n%m=n.tmod m+m)/\(0<=n.tmod m->n%m=n.tmod m)/\-m<n.tmod m/\n.tmod m<m:=by
 have h1:=Int.emod_nonneg n (show m≠0 by omega);have h2:=Int.emod_lt_of_pos n hm;rcases Int.lt_or_le n 0 with hn|hn
 ·have h3:n.tmod m = -((-n)%m):=by
   have:=Int.neg_tmod (a:=-n) (b:=m);rw[Int.neg_neg]at this;rw[this,Jm CZ]
  have h4:=Int.emod_nonneg (-n) (show m≠0 by omega);have h5:=Int.emod_lt_of_pos (-n) hm;have h6:=Int.mul_ediv_add_emod n m;have h7:=Int.mul_ediv_add_emod (-n) m;have key:(n%m=0/\(-n)%m=0)\/n%m=m-(-n)%m:=by
   by_cases hz:(-n)%m=0
   ·left;have hd:m ∣ -n:=Int.dvd_of_emod_eq_zero hz;have ud:m ∣ n:=(Int.dvd_neg).1 hd;exact⟨Int.emod_eq_zero_of_dvd ud,hz⟩
   ·right;have:n=m*(-((-n)/m)-1)+(m-(-n)%m):=by
     have : -n=m*((-n)/m)+(-n)%m:=h7.symm;rw[Int.mul_sub,Int.mul_neg];omega
    rw[this,Int.mul_add_emod_self_left];rw[<- this];exact Int.emod_eq_of_lt CZ CZ
  rw[h3];refine⟨?_,?_,?_,?_⟩<;>omega
 ·rw[Jm hn];refine⟨?_,?_,?_,?_⟩<;>omega
def nc(L:List Int)(Ca:Nat)(n:Int):Int:=if Ca >= L.length then 0 else yI (L.getD Ca 0) n
def kQ(L:List Int)(Ca:Nat):Nat:=if Ca >= L.length then Ca else Ca+1
def vV{L:List Int}{k:Nat}(h:k<=L.length):kQ L k<=L.length:=by unfold kQ;split<;>omega
def wZ{L:List Int}{k:Nat}{n:Int}(h:0<n):0<=nc L k n/\nc L k n<n:=by
 unfold nc;split
 ·omega
 ·exact aix _ _ h
def Em(L:List Int)(k:Nat)(n:Int):Bool:=decide (nc L k n=n-1)
def aF{α:Type}{l:List α}{i:Nat}{d:α}(h:i<l.length):l.getD i d∈l:=by
 rw[az,bS h];exact rS h
def dK(a b:Int):Int:=min (a+b) 1099511627776
def lB(n:Int):Bool:=decide ((1<=n/\n<=1048576)\/n=1099511627776)
def k8(R n:Int):Bool:=decide (0<=n/\n<R)
def jy(m:aj)(c o:Int):Bool:=decide (0<=c/\c<m.cls.length/\0<=o/\o<(m.cls.getD c.toNat default).length)
def kh(a b:Int):Int:=if a<b then -1 else if b<a then 1 else 0
def qJ:List Int->Int
 |[]=>0
 |x::r=>if x≠0 then x else qJ r
def k0(most cI sum:Int):Int:=if sum<=most then 0 else min ((sum-most)*cI) 1099511627776
def Cb(n c:Int):Int:=if n<=0 then 0 else if 1099511627776<=c then 1099511627776 else min (n*c) 1099511627776
def qO{α:Type}[Inhabited α](l:List α)(k:Nat):Option α:=if k=0 then none else some (l.getD (k-1) default)
def gy(R:Int):Option (Int×Int)->List (Int×Int)->Bool
 |_,[]=>true
 |q,c::r=>(k8 R c.1&&lB c.2&&(match q with|none=>true|some q=>decide (q.1<c.1)))&&gy R (some c) r
def nm(a b:Pr):Int:=qJ [kh a.ei b.ei,kh a.fst b.fst,kh a.snd b.snd]
def pG(n:Int):Bool:=decide (n≠0)&&!lB n
def iD(m:aj)(p:Pr):Bool:=k8 m.rules p.ei&&decide (0<=p.fst/\p.fst<p.snd/\p.snd<m.cls.length/\(p.aC.length:Int)=(m.cls.getD p.fst.toNat default).length*(m.cls.getD p.snd.toNat default).length)&&!p.aC.any pG
def gp(m:aj):Option Pr->List Pr->Bool
 |_,[]=>true
 |q,p::r=>(iD m p&&(match q with|none=>true|some q=>decide (nm q p<0)))&&gp m (some p) r
def uG(a b:Ld):Int:=qJ [kh a.cls b.cls,kh a.opt b.opt]
def e7(m:aj):Option Ld->List Ld->Bool
 |_,[]=>true
 |q,x::r=>(jy m x.cls x.opt&&decide (1<=x.wt/\x.wt<=1000)&&(match q with|none=>true|some q=>decide (uG q x<0)))&&e7 m (some x) r
def kH(m:aj)(c:Ct):Bool:=k8 m.rules c.ei&&decide (0<=c.most/\c.most<=1048576)&&lB c.cI&&e7 m none c.a6
def tg(m:aj):Bool:=decide (24<m.cls.length\/m.cls.any (λl=>decide (24<l.length))=true\/4000<m.ae.length\/800<m.aK.length\/m.rules<0\/56<m.rules)
def j6(m:aj):Int:=if tg m=true then 2 else if(m.cls.any λl=>l.any λo=>!gy m.rules none o.ch)=true then 1 else if gp m none m.ae=false then 1 else if(m.aK.any λc=>!kH m c)=true then 1 else 0
def xo{α:Type}[Inhabited α](l:List α)(k:Nat):qO l (k+1)=some (l.getD k default):=by simp[qO]
def V'{R:Int}{l r:List (Int×Int)}{k:Nat}{c:Int×Int}:gy R (qO l k) (c::r)=((k8 R c.1&&lB c.2&&(decide (k=0)||decide ((l.getD (k-1) default).1<c.1)))&&gy R (some c) r):=by
 by_cases h:k=0<;>simp[qO,h,gy]
def Wa{m:aj}{l r:List Pr}{k:Nat}{p:Pr}:gp m (qO l k) (p::r)=((iD m p&&(decide (k=0)||decide (nm (l.getD (k-1) default) p<0)))&&gp m (some p) r):=by
 by_cases h:k=0<;>simp[qO,h,gp]
def Wd{m:aj}{l r:List Ld}{k:Nat}{x:Ld}:e7 m (qO l k) (x::r)=((jy m x.cls x.opt&&decide (1<=x.wt/\x.wt<=1000)&&(decide (k=0)||decide (uG (l.getD (k-1) default) x<0)))&&e7 m (some x) r):=by
 by_cases h:k=0<;>simp[qO,h,e7]
structure MB(m:aj):Prop where
 cls:m.cls.length<9223372036854775808
 opt:∀ l∈m.cls,l.length<9223372036854775808
 ch:∀ l∈m.cls,∀ o∈l,o.ch.length<9223372036854775808
 ae:m.ae.length<9223372036854775808
 aC:∀ p∈m.ae,p.aC.length<9223372036854775808
 aK:m.aK.length<9223372036854775808
 En:∀ c∈m.aK,c.a6.length<9223372036854775808
def iF(out:List Int)(r c:Int):List Int:=out.set r.toNat (dK (out.getD r.toNat 0) c)
def B6:List (Int×Int)->List Int->List Int
 |[],out=>out
 |c::r,out=>B6 r (iF out c.1 c.2)
def B7(m:aj):Nat->List Int->List Int->List Int
 |_,[],out=>out
 |i,o::r,out=>B7 m (i+1) r (if o<0 then out else B6 ((m.cls.getD i default).getD o.toNat default).ch out)
def yG(m:aj)(p:Pr)(x y:Int):Int:=p.aC.getD (x*(m.cls.getD p.snd.toNat default).length+y).toNat 0
def B8(m:aj)(an:List Int):List Pr->List Int->List Int
 |[],out=>out
 |p::r,out=>B8 m an r (if 0<=an.getD p.fst.toNat 0/\0<=an.getD p.snd.toNat 0 then iF out p.ei (yG m p (an.getD p.fst.toNat 0) (an.getD p.snd.toNat 0)) else out)
def yH(an:List Int):List Ld->Int->Int
 |[],n=>n
 |x::r,n=>yH an r (if an.getD x.cls.toNat 0=x.opt then n+x.wt else n)
def B9(an:List Int):List Ct->List Int->List Int
 |[],out=>out
 |c::r,out=>B9 an r (iF out c.ei (k0 c.most c.cI (yH an c.a6 0)))
def te:List Int->Int->Int
 |[],n=>n
 |x::r,n=>te r (dK n x)
def vU(m:aj)(an:List Int):List Int:=B9 an m.aK (B8 m an m.ae (B7 m 0 an (aI m.rules.toNat 0)))
def bQ(x:Int):Prop:=0<=x/\x<=1099511627776
def Eg{a b:Int}(ha:bQ a)(hb:bQ b):bQ (dK a b):=by unfold bQ dK at *;omega
def uF{n:Int}(h:lB n=true):bQ n:=by unfold lB at h;rw[decide_eq_true_eq]at h;unfold bQ;omega
def lD(R:Int)(out:List Int):Prop:=(out.length:Int)=R/\∀ x∈out,bQ x
def lD.get{R:Int}{out:List Int}(h:lD R out)(i:Nat):bQ (out.getD i 0):=by
 rcases dw i out.length with hi|hi
 ·exact h.2 _ (aF hi)
 ·rw[az,fY hi];unfold bQ;decide
def lD.add{R:Int}{out:List Int}(h:lD R out){r c:Int}(hc:bQ c):lD R (iF out r c) :=
 ⟨by rw[iF,bH];exact h.1,λx hx=>by
  rcases tK hx with h'|h'
  ·exact h.2 x h'
  ·rw[h'];exact Eg (h.get _) hc⟩
def lD.rep{R:Int}(hR:0<=R):lD R (aI R.toNat 0):=⟨Jo,λx hx=>by
 have:=Ft hx;subst this;unfold bQ;decide⟩
structure VM(m:aj):Prop where
 cls:m.cls.length<=24
 opt:∀ l∈m.cls,l.length<=24
 ae:m.ae.length<=4000
 aK:m.aK.length<=800
 uC:0<=m.rules/\m.rules<=56
 rp:∀ l∈m.cls,∀ o∈l,gy m.rules none o.ch=true
 pr:gp m none m.ae=true
 ct:∀ c∈m.aK,kH m c=true
def oB{m:aj}:j6 m=0↔VM m:=by
 unfold j6;constructor
 ·intro h;split at h
  ·omega
  split at h
  ·omega
  split at h
  ·omega
  split at h
  ·omega
  rename_i h1 h2 h3 h4;have J7:tg m=false:=by simpa using h1
  rw[tg,decide_eq_false_iff_not]at J7;have h5:∀ l∈m.cls,l.length<=24:=λl hl=>by
   rcases dw 24 l.length with h|h
   ·exact absurd (.inr (.inl (u7.2 ⟨l,hl,by simpa using h⟩))) J7
   ·exact h
  refine⟨CZ,h5,CZ,CZ,CZ,λl hl o ho=>?_,by simpa using h3,λc hc=>?_⟩
  ·cases hh:gy m.rules none o.ch with
   |true=>rfl
   |false=>exact absurd (u7.2 ⟨l,hl,u7.2 ⟨o,ho,by rw[hh];rfl⟩⟩) h2
  ·cases hh:kH m c with
   |true=>rfl
   |false=>exact absurd (u7.2 ⟨c,hc,by rw[hh];rfl⟩) h4
 ·intro h;have h0:tg m=false:=by
   rw[tg,decide_eq_false_iff_not];rintro(h'|h'|h'|h'|h'|h')
   ·have:=h.cls;omega
   ·obtain⟨l,hl,uH⟩:=u7.1 h';have:=h.opt l hl;simp only[decide_eq_true_eq]at uH;omega
   ·have:=h.ae;omega
   ·have:=h.aK;omega
   ·have:=h.uC;omega
   ·have:=h.uC;omega
  rw[if_neg (by rw[h0];simp),if_neg,if_neg (by rw[h.pr];simp),if_neg]
  ·intro hh;obtain⟨c,hc,h'⟩:=u7.1 hh;rw[h.ct c hc]at h';simp at h'
  ·intro hh;obtain⟨l,hl,h'⟩:=u7.1 hh;obtain⟨o,ho,uH⟩:=u7.1 h';rw[h.rp l hl o ho]at uH;simp at uH
def HF{R:Int}:∀ {l:List (Int×Int)} {q:Option (Int×Int)},gy R q l=true->∀ c∈l,k8 R c.1=true/\lB c.2=true
 |[],_,_,c,hc=>by simp at hc
 |x::r,q,h,c,hc=>by
  rw[gy.eq_def]at h;simp only[a7]at h;rcases a8.1 hc with rfl|hc
  ·exact h.1.1
  ·exact HF h.2 c hc
def Mu{R:Int}:∀ {l:List (Int×Int)} {q:Int×Int},gy R (some q) l=true->l=[]\/q.1+l.length<R
 |[],_,_=>.inl rfl
 |x::r,q,h=>by
  right;rw[gy]at h;simp only[a7,decide_eq_true_eq,k8]at h;rcases Mu h.2 with rfl|h5
  ·simp only[cV,nr];omega
  ·simp only[cV];omega
def UK{R:Int}{l:List (Int×Int)}(hR:0<=R)(h:gy R none l=true):(l.length:Int)<=R:=by
 cases l with
 |nil=>simpa using hR
 |cons x r =>
  rw[gy]at h;simp only[a7,decide_eq_true_eq,k8]at h;rcases Mu h.2 with rfl|h5
  ·simp only[cV,nr];omega
  ·simp only[cV];omega
def jV{m:aj}:∀ {l:List Pr} {q:Option Pr},gp m q l=true->∀ p∈l,iD m p=true
 |[],_,_,c,hc=>by simp at hc
 |x::r,q,h,c,hc=>by
  rw[gp.eq_def]at h;simp only[a7]at h;rcases a8.1 hc with rfl|hc
  ·exact h.1.1
  ·exact jV h.2 c hc
def jK{m:aj}{c o:Int}:jy m c o=true↔0<=c/\c<m.cls.length/\0<=o/\o<(m.cls.getD c.toNat default).length:=by rw[jy,decide_eq_true_eq]
def We{m:aj}(h:VM m){c o:Int}(hb:jy m c o=true):0<=c/\c<24/\0<=o/\o<24:=by
 obtain⟨h1,h2,h3,h4⟩:=jK.1 hb;have:=h.cls;have:=h.opt _ (aF (l:=m.cls) (i:=c.toNat) (d:=default) CZ);omega
def Eo(a b:Int):(a<b/\kh a b = -1)\/(a=b/\kh a b=0)\/(b<a/\kh a b=1):=by
 unfold kh;rcases Int.lt_trichotomy a b with h|h|h
 ·left;exact⟨h,by rw[if_pos h]⟩
 ·right;left;exact⟨h,by rw[if_neg CZ,if_neg CZ]⟩
 ·right;right;exact⟨h,by rw[if_neg CZ,if_pos h]⟩
def HO{a b:Ld}:uG a b<0↔a.cls<b.cls\/(a.cls=b.cls/\a.opt<b.opt):=by
 unfold uG;rcases Eo a.cls b.cls with⟨h,e⟩|⟨h,e⟩|⟨h,e⟩<;>rcases Eo a.opt b.opt with⟨h',e'⟩|⟨h',e'⟩|⟨h',e'⟩<;>simp[qJ,e,e']<;>omega
def Mw{a b:Pr}:nm a b<0↔a.ei<b.ei\/(a.ei=b.ei/\(a.fst<b.fst\/(a.fst=b.fst/\a.snd<b.snd))):=by
 unfold nm;rcases Eo a.ei b.ei with⟨h,e⟩|⟨h,e⟩|⟨h,e⟩<;>rcases Eo a.fst b.fst with⟨h',e'⟩|⟨h',e'⟩|⟨h',e'⟩<;>rcases Eo a.snd b.snd with⟨h2,e2⟩|⟨h2,e2⟩|⟨h2,e2⟩<;>simp[qJ,e,e',e2]<;>omega
def Wf{m:aj}(hm:VM m):∀ {l:List Ld} {q:Ld},e7 m (some q) l=true->0<=q.cls/\0<=q.opt/\q.opt<24->l=[]\/q.cls*24+q.opt+l.length<576
 |[],_,_,_=>.inl rfl
 |x::r,q,h,hq=>by
  right;rw[e7]at h;simp only[a7,decide_eq_true_eq]at h;obtain⟨⟨⟨h1,h2⟩,h3⟩,h4⟩:=h;obtain⟨a,b,c,d⟩:=We hm h1;have ba:q.cls*24+q.opt<x.cls*24+x.opt:=by
   rcases HO.1 h3 with h|h<;>omega
  rcases Wf hm h4 ⟨a,c,d⟩ with rfl|h5
  ·simp only[cV,nr];omega
  ·simp only[cV];omega
def Wg{m:aj}(hm:VM m){l:List Ld}(h:e7 m none l=true):l.length<=576:=by
 cases l with
 |nil=>simp
 |cons x r =>
  rw[e7]at h;simp only[a7,decide_eq_true_eq]at h;obtain⟨a,b,c,d⟩:=We hm h.1.1.1;rcases Wf hm h.2 ⟨a,c,d⟩ with rfl|h5
  ·simp
  ·simp only[cV];omega
def vW{m:aj}:∀ {l:List Ld} {q:Option Ld},e7 m q l=true->∀ x∈l,jy m x.cls x.opt=true/\1<=x.wt/\x.wt<=1000
 |[],_,_,c,hc=>by simp at hc
 |x::r,q,h,c,hc=>by
  rw[e7.eq_def]at h;simp only[a7,decide_eq_true_eq]at h;rcases a8.1 hc with rfl|hc
  ·exact⟨h.1.1.1,h.1.1.2⟩
  ·exact vW h.2 c hc
def Ms{most cI sum:Int}(h:bQ cI):bQ (k0 most cI sum):=by
 unfold k0 bQ at *;split
 ·omega
 ·have:0<=(sum-most)*cI:=tQ CZ h.1;omega
def Wh{R:Int}:∀ {l:List (Int×Int)} {out:List Int},lD R out->(∀ c∈l,lB c.2=true)->lD R (B6 l out)
 |[],_,h,_=>h
 |c::r,out,h,hc=>by rw[B6];exact Wh (h.add (uF (hc c Fl))) λx hx=>hc x (by simp[hx])
structure PM(m:aj)(an:List Int):Prop where
 len:an.length=m.cls.length
 get:∀ j,j<an.length->an.getD j 0 = -1\/jy m (j:Nat) (an.getD j 0)=true
def qI{m:aj}{p:Pr}(h:iD m p=true):(0<=p.ei/\p.ei<m.rules)/\0<=p.fst/\p.fst<p.snd/\p.snd<m.cls.length/\(p.aC.length:Int)=(m.cls.getD p.fst.toNat default).length*(m.cls.getD p.snd.toNat default).length:=by
 unfold iD k8 at h;simp only[a7,decide_eq_true_eq]at h;exact⟨h.1.1,h.1.2⟩
def Aj{x y a b:Int}(hx:0<=x/\x<a)(hy:0<=y/\y<b)(ha:a<=24)(hb:b<=24):0<=x*b/\x*b<=576/\x*b+y<a*b:=by
 have h1:0<=x*b:=tQ hx.1 CZ;have h2:x*b<=(a-1)*b:=Fq CZ CZ;have h3:(a-1)*b=a*b-b:=by rw[Int.sub_mul,Int.one_mul]
 have h4:a*b<=24*24:=u6 ha hb CZ CZ;omega
def td{m:aj}{c:Ct}(h:kH m c=true):(0<=c.ei/\c.ei<m.rules)/\(0<=c.most/\c.most<=1048576)/\lB c.cI=true/\e7 m none c.a6=true:=by
 unfold kH k8 at h;simp only[a7,decide_eq_true_eq]at h;exact⟨h.1.1.1,h.1.1.2,h.1.2,h.2⟩
def Mr{m:aj}{p:Pr}(hp:iD m p=true)(x y:Int):bQ (yG m p x y):=by
 unfold yG;rcases dw (x*(m.cls.getD p.snd.toNat default).length+y).toNat p.aC.length with h|h
 ·unfold iD at hp;simp only[a7,lg,List.any_eq_false]at hp;have:=hp.2 _ (aF (d:=0) h);unfold pG at this;simp only[a7,decide_eq_true_eq,lg,not_and,Bool.not_eq_false]at this;generalize p.aC.getD (x*(m.cls.getD p.snd.toNat default).length+y).toNat 0=n at *;by_cases h0:n=0
  ·subst h0;unfold bQ;decide
  ·exact uF (this h0)
 ·rw[az,fY h];unfold bQ;decide
def Wi{m:aj}{c:Pr}:∀ {l:List Pr} {q:Option Pr},gp m q l=true->iD m c=true->(∀ x∈l,nm x c<0)->(∀ y,q=some y->nm y c<0)->gp m q (l++[c])=true
 |[],q,_,h1,_,h3=>by
  rw[iH,gp.eq_def];cases q with
  |none=>simp[h1,gp]
  |some y=>simp[h1,gp,h3 y rfl]
 |x::r,q,h,h1,h3,h4=>by
  rw[gp.eq_def]at h;simp only[a7]at h;rw[e9,gp.eq_def];simp only[a7];exact⟨h.1,Wi h.2 h1 (λy hy=>h3 y (by simp[hy])) (λy hy=>by simp only[cy.injEq]at hy;subst hy;exact h3 _ Fl)⟩
def Wj{m:aj}{c:Ld}:∀ {l:List Ld} {q:Option Ld},e7 m q l=true->jy m c.cls c.opt=true->(1<=c.wt/\c.wt<=1000)->(∀ x∈l,uG x c<0)->(∀ y,q=some y->uG y c<0)->e7 m q (l++[c])=true
 |[],q,_,h1,h2,_,h3=>by
  rw[iH,e7.eq_def];cases q with
  |none=>simp[h1,h2,e7]
  |some y=>simp[h1,h2,e7,h3 y rfl]
 |x::r,q,h,h1,h2,h3,h4=>by
  rw[e7.eq_def]at h;simp only[a7]at h;rw[e9,e7.eq_def];simp only[a7];exact⟨h.1,Wj h.2 h1 h2 (λy hy=>h3 y (by simp[hy])) (λy hy=>by simp only[cy.injEq]at hy;subst hy;exact h3 _ Fl)⟩
structure MM(m:aj)(aiy options:Nat):Prop where
 vm:VM m
 vX:m.cls.length<=aiy
 some:∀ l∈m.cls,1<=l.length/\l.length<=options
 uC:1<=m.rules/\m.rules<=4
 aK:m.aK.length<=2
 wk:∀ l∈m.cls,∀ o∈l,o.wk<=3
def VM.mb{m:aj}(h:VM m):MB m:=by
 refine⟨by have:=h.cls;omega,λl hl=>by have:=h.opt l hl;omega,λl hl o ho=>?_,by have:=h.ae;omega,λp hp=>?_,by have:=h.aK;omega,λc hc=>?_⟩
 ·have:=UK h.uC.1 (h.rp l hl o ho);have:=h.uC;omega
 ·obtain⟨_,h1,h2,h3,h4⟩:=qI (jV h.pr p hp);have a:=h.opt _ (aF (l:=m.cls) (i:=p.fst.toNat) (d:=default) CZ);have b:=h.opt _ (aF (l:=m.cls) (i:=p.snd.toNat) (d:=default) CZ);have:((m.cls.getD p.fst.toNat default).length:Int)*(m.cls.getD p.snd.toNat default).length<=24*24:=u6 CZ CZ CZ CZ;omega
 ·have:=Wg h (td (h.ct c hc)).2.2.2;omega
def Ep(p:Pr)(u i k:Nat):Prop:=p.ei<u\/(p.ei=u/\(p.fst<i\/(p.fst=i/\p.snd<k)))
structure Cc(cls:List (List dq))(R:Int)(ae:List Pr)(u i k:Nat):Prop where
 ok:gp ⟨cls,[],[],R⟩ none ae=true
 lt:∀ p∈ae,Ep p u i k
 len:ae.length<=576*u+24*i+k
def Cc.mono{cls:List (List dq)}{R:Int}{ae:List Pr}{u i k u' i' k':Nat}(h:Cc cls R ae u i k)(hl:u<u'\/(u=u'/\(i<i'\/(i=i'/\k<=k'))))(hs:576*u+24*i+k<=576*u'+24*i'+k'):Cc cls R ae u' i' k' :=
 ⟨h.ok,λp hp=>by have:=h.lt p hp;unfold Ep at *;omega,by have:=h.len;omega⟩
def Cc.app{cls:List (List dq)}{R:Int}{ae:List Pr}{u i k:Nat}(h:Cc cls R ae u i k){aC:List Int}(hp:iD ⟨cls,[],[],R⟩ ⟨i,k,u,aC⟩=true):Cc cls R (ae++[⟨i,k,u,aC⟩]) u i (k+1):=by
 refine⟨Wi h.ok hp (λx hx=>?_) Fl,λp hp=>?_,by have:=h.len;simp;omega⟩
 ·have:=h.lt x hx;rw[Mw];unfold Ep at this;dsimp only;omega
 ·rcases da.1 hp with hp|hp
  ·have:=h.lt p hp;unfold Ep at *;omega
  ·simp only[dI]at hp;subst hp;unfold Ep;dsimp only;omega
structure Cd(cls:List (List dq))(R:Int)(l:List Ld)(i k:Nat):Prop where
 ok:e7 ⟨cls,[],[],R⟩ none l=true
 lt:∀ x∈l,x.cls<i\/(x.cls=i/\x.opt<k)
 len:l.length<=24*i+k
def Cd.mono{cls:List (List dq)}{R:Int}{l:List Ld}{i k i' k':Nat}(h:Cd cls R l i k)(hl:i<i'\/(i=i'/\k<=k'))(hs:24*i+k<=24*i'+k'):Cd cls R l i' k' :=
 ⟨h.ok,λp hp=>by have:=h.lt p hp;omega,by have:=h.len;omega⟩
def Cd.app{cls:List (List dq)}{R:Int}{l:List Ld}{i k:Nat}(h:Cd cls R l i k){w:Int}(hi:i<cls.length)(hk:k<(cls.getD i default).length)(hw:1<=w/\w<=1000):Cd cls R (l++[⟨i,k,w⟩]) i (k+1):=by
 refine⟨Wj h.ok (jK.2 ⟨Ji,Ji,Ji,by simp;exact hk⟩) hw (λx hx=>?_) Fl,λp hp=>?_,by have:=h.len;simp;omega⟩
 ·have:=h.lt x hx;rw[HO];dsimp only;omega
 ·rcases da.1 hp with hp|hp
  ·have:=h.lt p hp;omega
  ·simp only[dI]at hp;subst hp;dsimp only;omega
def Wl:(default:dq).ch=[]:=rfl
def Wm{m:aj}(hm:VM m):∀ (an:List Int) (i:Nat) (out:List Int),lD m.rules out->lD m.rules (B7 m i an out)
 |[],_,_,h=>h
 |o::r,i,out,h=>by
  rw[B7];refine Wm hm r (i+1) _ ?_;split
  ·exact h
  ·refine Wh h λc hc=>?_;rcases dw i m.cls.length with hi|hi
   ·have hl:=aF (d:=(default:List dq)) hi;generalize m.cls.getD i default=l at *;rcases dw o.toNat l.length with ho|ho
    ·exact(HF (hm.rp l hl _ (aF ho)) c hc).2
    ·rw[show l.getD o.toNat default=default by rw[az,fY ho];rfl]at hc;exact absurd hc (by rw[Wl];simp)
   ·rw[show m.cls.getD i default=[] by rw[az,fY hi];rfl]at hc;exact absurd hc (by rw[List.getD_nil,Wl];simp)
def Wn{m:aj}{an:List Int}:∀ (l:List Pr) (out:List Int),(∀ p∈l,iD m p=true)->lD m.rules out->lD m.rules (B8 m an l out)
 |[],_,_,h=>h
 |p::r,out,hp,h=>by
  rw[B8];refine Wn r _ (λq hq=>hp q (by simp[hq])) ?_;split
  ·exact h.add (Mr (hp p Fl) _ _)
  ·exact h
def Wo{m:aj}{an:List Int}:∀ (l:List Ct) (out:List Int),(∀ c∈l,kH m c=true)->lD m.rules out->lD m.rules (B9 an l out)
 |[],_,_,h=>h
 |c::r,out,hp,h=>by
  rw[B9];exact Wo r _ (λq hq=>hp q (by simp[hq])) (h.add (Ms (uF (td (hp c Fl)).2.2.1)))
def aiw{m:aj}(hm:VM m)(an:List Int):lD m.rules (vU m an) :=
 Wo _ _ hm.ct (Wn _ _ (jV hm.pr) (Wm hm _ _ _ (lD.rep hm.uC.1)))
def kj:List Int->Int
 |[]=>0
 |x::r=>x+kj r
def Mx:∀ {l:List Int},(∀ x∈l,bQ x)->0<=kj l/\kj l<=1099511627776*l.length
 |[],_=>by simp[kj]
 |x::r,h=>by
  have:=Mx λy hy=>h y (List.mem_cons_of_mem x hy);have:=h x Fl;unfold bQ at this;simp only[kj,cV];omega
def V9:∀ {l:List Int} {n:Int},(∀ x∈l,bQ x)->bQ n->te l n=min (n+kj l) 1099511627776
 |[],n,_,hn=>by unfold bQ at hn;simp only[te,kj];omega
 |x::r,n,h,hn=>by
  have hx:=h x Fl;have hr:∀ y∈r,bQ y:=λy hy=>h y (by simp[hy]);rw[te,V9 hr (Eg hn hx)];have:=Mx hr;unfold bQ at hx hn;simp only[dK,kj];omega
def Mq:∀ {l:List Int},(∀ x∈l,bQ x)->∀ x∈l,x<=kj l
 |[],_,x,hx=>by simp at hx
 |y::r,h,x,hx=>by
  have hr:∀ z∈r,bQ z:=λz hz=>h z (by simp[hz]);have:=(Mx hr).1;have hy:=h y Fl;unfold bQ at hy;rcases a8.1 hx with rfl|hx
  ·simp only[kj];omega
  ·have:=Mq hr x hx;simp only[kj];omega
def LE(a b:List Int):Prop:=a.length=b.length/\∀ i,a.getD i 0<=b.getD i 0
def LE.refl(a:List Int):LE a a:=⟨rfl,λ_=>mP _⟩
def yJ(l:List Int)(n i:Nat)(x:Int):(l.set n x).getD i 0=if n=i/\i<l.length then x else l.getD i 0:=by
 rw[az,List.getElem?_set,az];by_cases h:n=i
 ·subst h;by_cases h2:n<l.length
  ·rw[if_pos rfl,if_pos h2,if_pos ⟨rfl,h2⟩];rfl
  ·rw[if_pos rfl,if_neg h2,if_neg (λh=>h2 h.2),fY CZ]
 ·rw[if_neg h,if_neg (λh'=>h h'.1)]
def LE.add{a b:List Int}(h:LE a b){r c d:Int}(hcd:c<=d):LE (iF a r c) (iF b r d):=by
 refine⟨by simp only[iF,bH];exact h.1,λi=>?_⟩;rw[iF,iF,yJ,yJ,h.1];have:=h.2 i;have:=h.2 r.toNat;split
 ·unfold dK;omega
 ·exact h.2 i
def LE.up{R:Int}{a b:List Int}(h:LE a b)(hb:lD R b){r c:Int}(hc:0<=c):LE a (iF b r c):=by
 refine⟨by simp only[iF,bH];exact h.1,λi=>?_⟩;rw[iF,yJ];have h1:=h.2 i;have h2:=hb.get i;unfold bQ at h2;split
 ·rename_i hh;rw[hh.1];unfold dK;omega
 ·exact h1
def Up(p q:List Int):Prop:=p.length=q.length/\∀ j,p.getD j 0=q.getD j 0\/p.getD j 0<0
def aiz{most cI s t:Int}(hp:0<=cI)(h:s<=t):k0 most cI s<=k0 most cI t:=by
 unfold k0;have h1:(s-most)*cI<=(t-most)*cI:=Fq CZ hp;split
 ·split
  ·exact mP _
  ·have:0<=(t-most)*cI:=tQ CZ hp;omega
 ·rw[if_neg CZ];omega
def Up.set{p:List Int}{c:Nat}(o:Int)(h:p.getD c 0 = -1):Up p (p.set c o):=by
 refine⟨Fl,λj=>?_⟩;rw[yJ];split
 ·rename_i hh;rw[<- hh.1,h];omega
 ·exact .inl rfl
def PM.set{m:aj}{p:List Int}(h:PM m p){c:Nat}{o:Int}(ho:o = -1\/jy m (c:Nat) o=true):PM m (p.set c o):=by
 refine⟨by rw[bH];exact h.len,λj hj=>?_⟩;rw[bH]at hj;rw[yJ];split
 ·rename_i hh;rw[<- hh.1];exact ho
 ·exact h.get j hj
def HP(left:List (List Int))(f:Nat)(xs:List Int)(i:Nat)(seen:List Bool)(owner:List Int):Bool×List Bool×List Int :=
  match xs with
  |[]=>(false,seen,owner)
  |x::r =>
    if seen.getD x.toNat false=true then HP left f r i seen owner
    else if owner.getD x.toNat 0<0 then(true,seen.set x.toNat true,owner.set x.toNat i)
    else match f with
      |0=>(false,seen.set x.toNat true,owner)
      |f+1 =>
        let q:=HP left f (left.getD (owner.getD x.toNat 0).toNat []) (owner.getD x.toNat 0).toNat (seen.set x.toNat true) owner
        if q.1=true then(true,q.2.1,q.2.2.set x.toNat i) else HP left (f+1) r i q.2.1 q.2.2
 termination_by (f,xs.length)
def qP(seen:List Bool):Nat:=seen.count false
def aiA(seen:List Bool)(n:Nat)(h:n<seen.length)(hf:seen.getD n false=false):qP (seen.set n true)+1=qP seen:=by
 unfold qP;rw[List.count_set h];have:seen[n]=false:=by simpa [h] using hf
 have h1:0<seen.count false:=List.count_pos_iff.2 (by rw[<- this];exact rS h);simp[this];omega
def xp(n:Nat)(R:Nat)(owner:List Int):Prop:=owner.length=R/\∀ o∈owner,-1<=o/\o<n
def Ak(R:Nat)(left:List (List Int)):Prop:=left.length<1000000/\∀ l∈left,l.length<1000000/\∀ x∈l,0<=x/\x<R
def xp.set{n R:Nat}{owner:List Int}(h:xp n R owner){x i:Nat}(hi:i<n):xp n R (owner.set x i) :=
 ⟨by simpa using h.1,λo ho=>by
  rcases tK ho with h'|h'
  ·exact h.2 o h'
  ·subst h';omega⟩
def xp.get{n R:Nat}{owner:List Int}(h:xp n R owner){x:Nat}(hx:x<R): -1<=owner.getD x 0/\owner.getD x 0<n:=by
 have hl:x<owner.length:=by rw[h.1];exact hx
 rw[az,bS hl];exact h.2 _ (rS hl)
def Ak.get{R:Nat}{left:List (List Int)}(h:Ak R left)(i:Nat):(left.getD i []).length<1000000/\∀ x∈left.getD i [],0<=x/\x<R:=by
 rcases dw i left.length with hi|hi
 ·rw[az,bS hi];exact h.2 _ (rS hi)
 ·rw[az,fY hi];simp
def My(left:List (List Int))(R:Nat)(Ce:Int):Nat->Nat->Nat->List Int->Nat
 |0,_,n,_=>n
 |c+1,i,n,owner =>
  if(i:Int)=Ce then My left R Ce c (i+1) n owner
  else
   let q:=HP left R (left.getD i []) i (aI R false) owner
   My left R Ce c (i+1) (if q.1=true then n+1 else n) q.2.2
def size(left:List (List Int))(R:Nat)(Ce:Int):Nat:=My left R Ce left.length 0 0 (aI R (-1))
def aiB(R:Nat):qP (aI R false)=R:=by simp[qP]
def xp.rep(n R:Nat):xp n R (aI R (-1)):=⟨Fl,λo ho=>by
 have:=Ft ho;subst this;omega⟩
def rF(left:List (List Int))(f:Nat)(xs:List Int)(i:Nat)(seen:List Bool)(owner number:List Int):Bool×List Bool×List Int×List Int :=
  match xs with
  |[]=>(false,seen,owner,number)
  |x::r =>
    if seen.getD x.toNat false=true then rF left f r i seen owner number
    else if owner.getD x.toNat 0<0 then(true,seen.set x.toNat true,owner.set x.toNat i,number.set i x)
    else match f with
      |0=>(false,seen.set x.toNat true,owner,number)
      |f+1 =>
        let q:=rF left f (left.getD (owner.getD x.toNat 0).toNat []) (owner.getD x.toNat 0).toNat (seen.set x.toNat true) owner number
        if q.1=true then(true,q.2.1,q.2.2.1.set x.toNat i,q.2.2.2.set i x) else rF left (f+1) r i q.2.1 q.2.2.1 q.2.2.2
 termination_by (f,xs.length)
end T

