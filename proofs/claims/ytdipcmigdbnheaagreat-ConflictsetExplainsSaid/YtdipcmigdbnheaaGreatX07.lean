import Derived.Test.YtdipcmigdbnheaaGreatX06
set_option linter.all false
set_option maxHeartbeats 0
set_option maxRecDepth 20000
open List renaming getD_eq_getElem?_getD→aA,replicate→bH,getElem?_eq_none→dW,any_eq_true→rC,mem_cons→cB,length_cons→eB,length_nil→pD,getD_cons_zero→iF,getD_cons_succ→fU,any_eq_false→yL,nil_append→dY,cons_append→dS,mem_append→cH,mem_singleton→fE,mem_map→cz,map_cons→dg,map_map→uD,map_congr_left→l8,mem_iff_getElem→uz
open Nat renaming lt_or_ge→fK,zero_add→gn
open Bool renaming and_eq_true→bw,not_eq_true'→ld
open Int renaming mul_nonneg→sF,mul_le_mul→qj,toNat_natCast→fq,zero_add→z8,toNat_of_nonneg→sG
open Option renaming some→dI
open Go Go.Am
namespace T
def Rc:=aaQ @b8 @gf @za @Sa @Lw @Em @tP
def gk(x:Int):Prop:=-9223372036854775808<=x/\x<=9223372036854775807
def zA(n m:Int):Int:=if m<1 then 0 else n%m
def ahC(n m:Int)(hm:0<m):0<=zA n m/\zA n m<m:=by
 unfold zA;rw[if_neg GC];exact⟨Int.emod_nonneg _ GC,Int.emod_lt_of_pos _ GC⟩
def My(n m:Int)(hm:0<m):(n.tmod m<0->n%m=n.tmod m+m)/\(0<=n.tmod m->n%m=n.tmod m)/\-m<n.tmod m/\n.tmod m<m:=by
 have h1:=Int.emod_nonneg n (show m≠0 by omega);have h2:=Int.emod_lt_of_pos n hm;rcases Int.lt_or_le n 0 with hn|hn
 ·have h3:n.tmod m = -((-n)%m):=by
   have:=Int.neg_tmod (a:=-n) (b:=m);rw[Int.neg_neg]at this;rw[this,Int.tmod_eq_emod_of_nonneg GC]
  have h4:=Int.emod_nonneg (-n) (show m≠0 by omega);have h5:=Int.emod_lt_of_pos (-n) hm;have h6:=Int.mul_ediv_add_emod n m;have h7:=Int.mul_ediv_add_emod (-n) m;have key:(n%m=0/\(-n)%m=0)\/n%m=m-(-n)%m:=by
   by_cases hz:(-n)%m=0
   ·left;have hd:m ∣ -n:=Int.dvd_of_emod_eq_zero hz;have uR:m ∣ n:=(Int.dvd_neg).1 hd;exact⟨Int.emod_eq_zero_of_dvd uR,hz⟩
   ·right;have:n=m*(-((-n)/m)-1)+(m-(-n)%m):=by
     have : -n=m*((-n)/m)+(-n)%m:=h7.symm;rw[Int.mul_sub,Int.mul_neg];omega
    rw[this,Int.mul_add_emod_self_left];rw[<- this];exact Int.emod_eq_of_lt GC GC
  rw[h3];refine⟨?_,?_,?_,?_⟩<;>omega
 ·rw[Int.tmod_eq_emod_of_nonneg hn];refine⟨?_,?_,?_,?_⟩<;>omega
def gl(L:List Int)(Cz:Nat)(n:Int):Int:=if Cz >= L.length then 0 else zA (L.getD Cz 0) n
def dM(L:List Int)(Cz:Nat):Nat:=if Cz >= L.length then Cz else Cz+1
def iY{L:List Int}{k:Nat}(h:k<=L.length):dM L k<=L.length:=by unfold dM;split<;>omega
def oO{L:List Int}{k:Nat}{n:Int}(h:0<n):0<=gl L k n/\gl L k n<n:=by
 unfold gl;split
 ·omega
 ·exact ahC _ _ h
def AL(L:List Int)(k:Nat)(n:Int):Bool:=decide (gl L k n=n-1)
def ay{α:Type}{l:List α}{i:Nat}{d:α}(h:i<l.length):l.getD i d∈l:=by
 rw[aA,List.getElem?_eq_getElem h];exact List.getElem_mem h
def It{σ:St}{kp:Nat->Prop}{ρ:Nat->Nat}{snap:Bool}{a b c d e f:AV}(h:aJ σ kp ρ snap a d)(k:aJ σ kp ρ snap b e)(l:aJ σ kp ρ snap c f):aJ σ kp ρ snap (.bJ [a,b,c]) (.bJ [d,e,f]) :=
 .bJ _ _ rfl (fF.spec (R:=aJ σ kp ρ snap) (cs:=[a,b,c]) (ds:=[d,e,f]) ⟨h,k,l,trivial⟩).2
def ee(a b:Int):Int:=min (a+b) 1099511627776
def jY(n:Int):Bool:=decide ((1<=n/\n<=1048576)\/n=1099511627776)
def jI(R n:Int):Bool:=decide (0<=n/\n<R)
def eW(m:aj)(c o:Int):Bool:=decide (0<=c/\c<m.cls.length/\0<=o/\o<(m.cls.getD c.toNat default).length)
def pX(a b:Int):Int:=if a<b then -1 else if b<a then 1 else 0
def vv:List Int->Int
 |[]=>0
 |x::r=>if x≠0 then x else vv r
def j4(most bM sum:Int):Int:=if sum<=most then 0 else min ((sum-most)*bM) 1099511627776
def Cy(n c:Int):Int:=if n<=0 then 0 else if 1099511627776<=c then 1099511627776 else min (n*c) 1099511627776
def qS(L:List Int)(k:Nat):Int:=if gl L k 6<3 then 0 else if gl L k 6=3 then 1099511627776 else 1+gl L (dM L k) 20
def wG(L:List Int)(k:Nat):Nat:=if gl L k 6<=3 then dM L k else dM L (dM L k)
def mU{α:Type}[Inhabited α](l:List α)(k:Nat):Option α:=if k=0 then none else some (l.getD (k-1) default)
def eo(R:Int):Option (Int×Int)->List (Int×Int)->Bool
 |_,[]=>true
 |q,c::r=>(jI R c.1&&jY c.2&&(match q with|none=>true|some q=>decide (q.1<c.1)))&&eo R (some c) r
def po(a b:Pr):Int:=vv [pX a.bz b.bz,pX a.fst b.fst,pX a.snd b.snd]
def pY(n:Int):Bool:=decide (n≠0)&&!jY n
def gH(m:aj)(p:Pr):Bool:=jI m.rules p.bz&&decide (0<=p.fst/\p.fst<p.snd/\p.snd<m.cls.length/\(p.aB.length:Int)=(m.cls.getD p.fst.toNat default).length*(m.cls.getD p.snd.toNat default).length)&&!p.aB.any pY
def fH(m:aj):Option Pr->List Pr->Bool
 |_,[]=>true
 |q,p::r=>(gH m p&&(match q with|none=>true|some q=>decide (po q p<0)))&&fH m (some p) r
def vw(a b:Ld):Int:=vv [pX a.cls b.cls,pX a.opt b.opt]
def eI(m:aj):Option Ld->List Ld->Bool
 |_,[]=>true
 |q,x::r=>(eW m x.cls x.opt&&decide (1<=x.wt/\x.wt<=1000)&&(match q with|none=>true|some q=>decide (vw q x<0)))&&eI m (some x) r
def iQ(m:aj)(c:Ct):Bool:=jI m.rules c.bz&&decide (0<=c.most/\c.most<=1048576)&&jY c.bM&&eI m none c.aH
def ue(m:aj):Bool:=decide (24<m.cls.length\/m.cls.any (λl=>decide (24<l.length))=true\/4000<m.ae.length\/800<m.av.length\/m.rules<0\/56<m.rules)
def df(m:aj):Int:=if ue m=true then 2 else if(m.cls.any λl=>l.any λo=>!eo m.rules none o.ch)=true then 1 else if fH m none m.ae=false then 1 else if(m.av.any λc=>!iQ m c)=true then 1 else 0
def qT(m:aj):Nat->List Int->Bool
 |_,[]=>true
 |i,o::r=>(decide (o = -1)||eW m i o)&&qT m (i+1) r
def qU(m:aj)(plan:List Int):Bool:=if plan.length≠m.cls.length then false else qT m 0 plan
def wB{α:Type}[Inhabited α](l:List α)(k:Nat):mU l (k+1)=some (l.getD k default):=by simp[mU]
def Yx{R:Int}{l r:List (Int×Int)}{k:Nat}{c:Int×Int}:eo R (mU l k) (c::r)=((jI R c.1&&jY c.2&&(decide (k=0)||decide ((l.getD (k-1) default).1<c.1)))&&eo R (some c) r):=by
 by_cases h:k=0<;>simp[mU,h,eo]
def Yy{m:aj}{l r:List Pr}{k:Nat}{p:Pr}:fH m (mU l k) (p::r)=((gH m p&&(decide (k=0)||decide (po (l.getD (k-1) default) p<0)))&&fH m (some p) r):=by
 by_cases h:k=0<;>simp[mU,h,fH]
def Yz{m:aj}{l r:List Ld}{k:Nat}{x:Ld}:eI m (mU l k) (x::r)=((eW m x.cls x.opt&&decide (1<=x.wt/\x.wt<=1000)&&(decide (k=0)||decide (vw (l.getD (k-1) default) x<0)))&&eI m (some x) r):=by
 by_cases h:k=0<;>simp[mU,h,eI]
structure MB(m:aj):Prop where
 cls:m.cls.length<9223372036854775808
 opt:∀ l∈m.cls,l.length<9223372036854775808
 ch:∀ l∈m.cls,∀ o∈l,o.ch.length<9223372036854775808
 ae:m.ae.length<9223372036854775808
 aB:∀ p∈m.ae,p.aB.length<9223372036854775808
 av:m.av.length<9223372036854775808
 mW:∀ c∈m.av,c.aH.length<9223372036854775808
def fI(out:List Int)(r c:Int):List Int:=out.set r.toNat (ee (out.getD r.toNat 0) c)
def pZ:List (Int×Int)->List Int->List Int
 |[],out=>out
 |c::r,out=>pZ r (fI out c.1 c.2)
def oP(m:aj):Nat->List Int->List Int->List Int
 |_,[],out=>out
 |i,o::r,out=>oP m (i+1) r (if o<0 then out else pZ ((m.cls.getD i default).getD o.toNat default).ch out)
def lV(m:aj)(p:Pr)(x y:Int):Int:=p.aB.getD (x*(m.cls.getD p.snd.toNat default).length+y).toNat 0
def n5(m:aj)(plan:List Int):List Pr->List Int->List Int
 |[],out=>out
 |p::r,out=>n5 m plan r (if 0<=plan.getD p.fst.toNat 0/\0<=plan.getD p.snd.toNat 0 then fI out p.bz (lV m p (plan.getD p.fst.toNat 0) (plan.getD p.snd.toNat 0)) else out)
def ki(plan:List Int):List Ld->Int->Int
 |[],n=>n
 |x::r,n=>ki plan r (if plan.getD x.cls.toNat 0=x.opt then n+x.wt else n)
def oQ(plan:List Int):List Ct->List Int->List Int
 |[],out=>out
 |c::r,out=>oQ plan r (fI out c.bz (j4 c.most c.bM (ki plan c.aH 0)))
def jX:List Int->Int->Int
 |[],n=>n
 |x::r,n=>jX r (ee n x)
def jr(m:aj)(plan:List Int):List Int:=oQ plan m.av (n5 m plan m.ae (oP m 0 plan (bH m.rules.toNat 0)))
def CE(m:aj)(plan:List Int):Int×List Int:=(jX (jr m plan) 0,jr m plan)
def ph(m:aj)(plan:List Int):Int×List Int×Int :=
 if df m≠0 then(0,[],df m) else if qU m plan=false then(0,[],17) else((CE m plan).1,(CE m plan).2,0)
def b7(x:Int):Prop:=0<=x/\x<=1099511627776
def A2{a b:Int}(ha:b7 a)(hb:b7 b):b7 (ee a b):=by unfold b7 ee at *;omega
def lz{n:Int}(h:jY n=true):b7 n:=by unfold jY at h;rw[decide_eq_true_eq]at h;unfold b7;omega
def jt(R:Int)(out:List Int):Prop:=(out.length:Int)=R/\∀ x∈out,b7 x
def jt.get{R:Int}{out:List Int}(h:jt R out)(i:Nat):b7 (out.getD i 0):=by
 rcases fK i out.length with hi|hi
 ·exact h.2 _ (ay hi)
 ·rw[aA,dW hi];unfold b7;decide
def jt.add{R:Int}{out:List Int}(h:jt R out){r c:Int}(hc:b7 c):jt R (fI out r c) :=
 ⟨by rw[fI,List.length_set];exact h.1,λx hx=>by
  rcases List.mem_or_eq_of_mem_set hx with h'|h'
  ·exact h.2 x h'
  ·rw[h'];exact A2 (h.get _) hc⟩
def jt.rep{R:Int}(hR:0<=R):jt R (bH R.toNat 0):=⟨aar,λx hx=>by
 have:=List.eq_of_mem_replicate hx;subst this;unfold b7;decide⟩
structure VM(m:aj):Prop where
 cls:m.cls.length<=24
 opt:∀ l∈m.cls,l.length<=24
 ae:m.ae.length<=4000
 av:m.av.length<=800
 jq:0<=m.rules/\m.rules<=56
 mA:∀ l∈m.cls,∀ o∈l,eo m.rules none o.ch=true
 pr:fH m none m.ae=true
 ct:∀ c∈m.av,iQ m c=true
def eK{m:aj}:df m=0↔VM m:=by
 unfold df;constructor
 ·intro h;split at h
  ·omega
  split at h
  ·omega
  split at h
  ·omega
  split at h
  ·omega
  rename_i h1 h2 h3 h4;have Ar:ue m=false:=by simpa using h1
  rw[ue,decide_eq_false_iff_not]at Ar;have h5:∀ l∈m.cls,l.length<=24:=λl hl=>by
   rcases fK 24 l.length with h|h
   ·exact absurd (.inr (.inl (rC.2 ⟨l,hl,by simpa using h⟩))) Ar
   ·exact h
  refine⟨GC,h5,GC,GC,GC,λl hl o ho=>?_,by simpa using h3,λc hc=>?_⟩
  ·cases hh:eo m.rules none o.ch with
   |true=>rfl
   |false=>exact absurd (rC.2 ⟨l,hl,rC.2 ⟨o,ho,by rw[hh];rfl⟩⟩) h2
  ·cases hh:iQ m c with
   |true=>rfl
   |false=>exact absurd (rC.2 ⟨c,hc,by rw[hh];rfl⟩) h4
 ·intro h;have h0:ue m=false:=by
   rw[ue,decide_eq_false_iff_not];rintro(h'|h'|h'|h'|h'|h')
   ·have:=h.cls;omega
   ·obtain⟨l,hl,Iu⟩:=rC.1 h';have:=h.opt l hl;simp only[decide_eq_true_eq]at Iu;omega
   ·have:=h.ae;omega
   ·have:=h.av;omega
   ·have:=h.jq;omega
   ·have:=h.jq;omega
  rw[if_neg (by rw[h0];simp),if_neg,if_neg (by rw[h.pr];simp),if_neg]
  ·intro hh;obtain⟨c,hc,h'⟩:=rC.1 hh;rw[h.ct c hc]at h';simp at h'
  ·intro hh;obtain⟨l,hl,h'⟩:=rC.1 hh;obtain⟨o,ho,Iu⟩:=rC.1 h';rw[h.mA l hl o ho]at Iu;simp at Iu
def xZ{R:Int}:∀ {l:List (Int×Int)} {q:Option (Int×Int)},eo R q l=true->∀ c∈l,jI R c.1=true/\jY c.2=true
 |[],_,_,c,hc=>by simp at hc
 |x::r,q,h,c,hc=>by
  rw[eo.eq_def]at h;simp only[bw]at h;rcases cB.1 hc with rfl|hc
  ·exact h.1.1
  ·exact xZ h.2 c hc
def Ie{R:Int}:∀ {l:List (Int×Int)} {q:Int×Int},eo R (some q) l=true->l=[]\/q.1+l.length<R
 |[],_,_=>.inl rfl
 |x::r,q,h=>by
  right;rw[eo]at h;simp only[bw,decide_eq_true_eq,jI]at h;rcases Ie h.2 with rfl|h5
  ·simp only[eB,pD];omega
  ·simp only[eB];omega
def EP{R:Int}{l:List (Int×Int)}(hR:0<=R)(h:eo R none l=true):(l.length:Int)<=R:=by
 cases l with
 |nil=>simpa using hR
 |cons x r =>
  rw[eo]at h;simp only[bw,decide_eq_true_eq,jI]at h;rcases Ie h.2 with rfl|h5
  ·simp only[eB,pD];omega
  ·simp only[eB];omega
def iA{m:aj}:∀ {l:List Pr} {q:Option Pr},fH m q l=true->∀ p∈l,gH m p=true
 |[],_,_,c,hc=>by simp at hc
 |x::r,q,h,c,hc=>by
  rw[fH.eq_def]at h;simp only[bw]at h;rcases cB.1 hc with rfl|hc
  ·exact h.1.1
  ·exact iA h.2 c hc
def fD{m:aj}{c o:Int}:eW m c o=true↔0<=c/\c<m.cls.length/\0<=o/\o<(m.cls.getD c.toNat default).length:=by rw[eW,decide_eq_true_eq]
def YA{m:aj}(h:VM m){c o:Int}(hb:eW m c o=true):0<=c/\c<24/\0<=o/\o<24:=by
 obtain⟨h1,h2,h3,h4⟩:=fD.1 hb;have:=h.cls;have:=h.opt _ (ay (l:=m.cls) (i:=c.toNat) (d:=default) GC);omega
def E2(a b:Int):(a<b/\pX a b = -1)\/(a=b/\pX a b=0)\/(b<a/\pX a b=1):=by
 unfold pX;rcases Int.lt_trichotomy a b with h|h|h
 ·left;exact⟨h,by rw[if_pos h]⟩
 ·right;left;exact⟨h,by rw[if_neg GC,if_neg GC]⟩
 ·right;right;exact⟨h,by rw[if_neg GC,if_pos h]⟩
def Iv{a b:Ld}:vw a b<0↔a.cls<b.cls\/(a.cls=b.cls/\a.opt<b.opt):=by
 unfold vw;rcases E2 a.cls b.cls with⟨h,e⟩|⟨h,e⟩|⟨h,e⟩<;>rcases E2 a.opt b.opt with⟨h',e'⟩|⟨h',e'⟩|⟨h',e'⟩<;>simp[vv,e,e']<;>omega
def MH{a b:Pr}:po a b<0↔a.bz<b.bz\/(a.bz=b.bz/\(a.fst<b.fst\/(a.fst=b.fst/\a.snd<b.snd))):=by
 unfold po;rcases E2 a.bz b.bz with⟨h,e⟩|⟨h,e⟩|⟨h,e⟩<;>rcases E2 a.fst b.fst with⟨h',e'⟩|⟨h',e'⟩|⟨h',e'⟩<;>rcases E2 a.snd b.snd with⟨h2,e2⟩|⟨h2,e2⟩|⟨h2,e2⟩<;>simp[vv,e,e',e2]<;>omega
def YB{m:aj}(hm:VM m):∀ {l:List Ld} {q:Ld},eI m (some q) l=true->0<=q.cls/\0<=q.opt/\q.opt<24->l=[]\/q.cls*24+q.opt+l.length<576
 |[],_,_,_=>.inl rfl
 |x::r,q,h,hq=>by
  right;rw[eI]at h;simp only[bw,decide_eq_true_eq]at h;obtain⟨⟨⟨h1,h2⟩,h3⟩,h4⟩:=h;obtain⟨a,b,c,d⟩:=YA hm h1;have br:q.cls*24+q.opt<x.cls*24+x.opt:=by
   rcases Iv.1 h3 with h|h<;>omega
  rcases YB hm h4 ⟨a,c,d⟩ with rfl|h5
  ·simp only[eB,pD];omega
  ·simp only[eB];omega
def AQ{m:aj}(hm:VM m){l:List Ld}(h:eI m none l=true):l.length<=576:=by
 cases l with
 |nil=>simp
 |cons x r =>
  rw[eI]at h;simp only[bw,decide_eq_true_eq]at h;obtain⟨a,b,c,d⟩:=YA hm h.1.1.1;rcases YB hm h.2 ⟨a,c,d⟩ with rfl|h5
  ·simp
  ·simp only[eB];omega
def pV{m:aj}:∀ {l:List Ld} {q:Option Ld},eI m q l=true->∀ x∈l,eW m x.cls x.opt=true/\1<=x.wt/\x.wt<=1000
 |[],_,_,c,hc=>by simp at hc
 |x::r,q,h,c,hc=>by
  rw[eI.eq_def]at h;simp only[bw,decide_eq_true_eq]at h;rcases cB.1 hc with rfl|hc
  ·exact⟨h.1.1.1,h.1.1.2⟩
  ·exact pV h.2 c hc
def MI{m:aj}{plan:List Int}:∀ {l:List Ld},(∀ x∈l,1<=x.wt/\x.wt<=1000)->∀ n,n<=ki plan l n/\ki plan l n<=n+1000*l.length
 |[],_,n=>by simp[ki]
 |x::r,h,n=>by
  have hx:=h x GF;rw[ki];have:=MI (m:=m) (plan:=plan) (l:=r) (λy hy=>h y (by simp[hy])) (if plan.getD x.cls.toNat 0=x.opt then n+x.wt else n);simp only[eB];split at this<;>split<;>simp_all<;>omega
def CF{most bM sum:Int}(h:b7 bM):b7 (j4 most bM sum):=by
 unfold j4 b7 at *;split
 ·omega
 ·have:0<=(sum-most)*bM:=sF GC h.1;omega
def YC{R:Int}:∀ {l:List (Int×Int)} {out:List Int},jt R out->(∀ c∈l,jY c.2=true)->jt R (pZ l out)
 |[],_,h,_=>h
 |c::r,out,h,hc=>by rw[pZ];exact YC (h.add (lz (hc c GF))) λx hx=>hc x (by simp[hx])
def YD{m:aj}:∀ {plan:List Int} {i:Nat},qT m i plan=true->∀ j,j<plan.length->plan.getD j 0 = -1\/eW m ((i+j:Nat):Int) (plan.getD j 0)=true
 |[],_,_,j,hj=>by simp at hj
 |o::r,i,h,j,hj=>by
  rw[qT]at h;simp only[bw,Bool.or_eq_true,decide_eq_true_eq]at h;cases j with
  |zero=>rw[iF];exact h.1
  |succ j =>
   rw[fU];have:=YD h.2 j (by simpa using hj);rwa [show i+1+j=i+(j+1) by omega]at this
structure PM(m:aj)(plan:List Int):Prop where
 len:plan.length=m.cls.length
 get:∀ j,j<plan.length->plan.getD j 0 = -1\/eW m (j:Nat) (plan.getD j 0)=true
def MJ{m:aj}{plan:List Int}(h:qU m plan=true):PM m plan:=by
 unfold qU at h;split at h
 ·simp at h
 ·refine⟨GC,λj hj=>?_⟩;have:=YD h j hj;rwa [gn]at this
def lT{m:aj}{p:Pr}(h:gH m p=true):(0<=p.bz/\p.bz<m.rules)/\0<=p.fst/\p.fst<p.snd/\p.snd<m.cls.length/\(p.aB.length:Int)=(m.cls.getD p.fst.toNat default).length*(m.cls.getD p.snd.toNat default).length:=by
 unfold gH jI at h;simp only[bw,decide_eq_true_eq]at h;exact⟨h.1.1,h.1.2⟩
def vr{x y a b:Int}(hx:0<=x/\x<a)(hy:0<=y/\y<b)(ha:a<=24)(hb:b<=24):0<=x*b/\x*b<=576/\x*b+y<a*b:=by
 have h1:0<=x*b:=sF hx.1 GC;have h2:x*b<=(a-1)*b:=Int.mul_le_mul_of_nonneg_right GC GC;have h3:(a-1)*b=a*b-b:=by rw[Int.sub_mul,Int.one_mul]
 have h4:a*b<=24*24:=qj ha hb GC GC;omega
def lS{m:aj}{c:Ct}(h:iQ m c=true):(0<=c.bz/\c.bz<m.rules)/\(0<=c.most/\c.most<=1048576)/\jY c.bM=true/\eI m none c.aH=true:=by
 unfold iQ jI at h;simp only[bw,decide_eq_true_eq]at h;exact⟨h.1.1.1,h.1.1.2,h.1.2,h.2⟩
def CG{m:aj}{p:Pr}(hp:gH m p=true)(x y:Int):b7 (lV m p x y):=by
 unfold lV;rcases fK (x*(m.cls.getD p.snd.toNat default).length+y).toNat p.aB.length with h|h
 ·unfold gH at hp;simp only[bw,ld,yL]at hp;have:=hp.2 _ (ay (d:=0) h);unfold pY at this;simp only[bw,decide_eq_true_eq,ld,not_and,Bool.not_eq_false]at this;generalize p.aB.getD (x*(m.cls.getD p.snd.toNat default).length+y).toNat 0=n at *;by_cases h0:n=0
  ·subst h0;unfold b7;decide
  ·exact lz (this h0)
 ·rw[aA,dW h];unfold b7;decide
def YE{R:Int}{c:Int×Int}:∀ {l:List (Int×Int)} {q:Option (Int×Int)},eo R q l=true->jI R c.1=true->jY c.2=true->(∀ x∈l,x.1<c.1)->(∀ y,q=some y->y.1<c.1)->eo R q (l++[c])=true
 |[],q,_,h1,h2,_,h3=>by
  rw[dY,eo.eq_def];cases q with
  |none=>simp[h1,h2,eo]
  |some y=>simp[h1,h2,eo,h3 y rfl]
 |x::r,q,h,h1,h2,h3,h4=>by
  rw[eo.eq_def]at h;simp only[bw]at h;rw[dS,eo.eq_def];simp only[bw];exact⟨h.1,YE h.2 h1 h2 (λy hy=>h3 y (by simp[hy])) (λy hy=>by simp only[dI.injEq]at hy;subst hy;exact h3 _ GF)⟩
def YF{m:aj}{c:Pr}:∀ {l:List Pr} {q:Option Pr},fH m q l=true->gH m c=true->(∀ x∈l,po x c<0)->(∀ y,q=some y->po y c<0)->fH m q (l++[c])=true
 |[],q,_,h1,_,h3=>by
  rw[dY,fH.eq_def];cases q with
  |none=>simp[h1,fH]
  |some y=>simp[h1,fH,h3 y rfl]
 |x::r,q,h,h1,h3,h4=>by
  rw[fH.eq_def]at h;simp only[bw]at h;rw[dS,fH.eq_def];simp only[bw];exact⟨h.1,YF h.2 h1 (λy hy=>h3 y (by simp[hy])) (λy hy=>by simp only[dI.injEq]at hy;subst hy;exact h3 _ GF)⟩
def YG{m:aj}{c:Ld}:∀ {l:List Ld} {q:Option Ld},eI m q l=true->eW m c.cls c.opt=true->(1<=c.wt/\c.wt<=1000)->(∀ x∈l,vw x c<0)->(∀ y,q=some y->vw y c<0)->eI m q (l++[c])=true
 |[],q,_,h1,h2,_,h3=>by
  rw[dY,eI.eq_def];cases q with
  |none=>simp[h1,h2,eI]
  |some y=>simp[h1,h2,eI,h3 y rfl]
 |x::r,q,h,h1,h2,h3,h4=>by
  rw[eI.eq_def]at h;simp only[bw]at h;rw[dS,eI.eq_def];simp only[bw];exact⟨h.1,YG h.2 h1 h2 (λy hy=>h3 y (by simp[hy])) (λy hy=>by simp only[dI.injEq]at hy;subst hy;exact h3 _ GF)⟩
def YH{cls:List (List bU)}{R:Int}{a b:List Pr}{c d:List Ct}:∀ (l:List Pr) (q:Option Pr),fH ⟨cls,a,c,R⟩ q l=fH ⟨cls,b,d,R⟩ q l
 |[],_=>rfl
 |x::r,q=>by
  have:=YH (cls:=cls) (R:=R) (a:=a) (b:=b) (c:=c) (d:=d) r (some x);cases q<;>simp only[fH,this]<;>rfl
def YI{cls:List (List bU)}{R:Int}{a b:List Pr}{c d:List Ct}:∀ (l:List Ld) (q:Option Ld),eI ⟨cls,a,c,R⟩ q l=eI ⟨cls,b,d,R⟩ q l
 |[],_=>rfl
 |x::r,q=>by
  have:=YI (cls:=cls) (R:=R) (a:=a) (b:=b) (c:=c) (d:=d) r (some x);cases q<;>simp only[eI,this]<;>rfl
def ahD{cls:List (List bU)}{R:Int}{a b:List Pr}{c d:List Ct}(x:Ct):iQ ⟨cls,a,c,R⟩ x=iQ ⟨cls,b,d,R⟩ x:=by
 unfold iQ;rw[YI (a:=a) (b:=b) (c:=c) (d:=d)]
def MK(L:List Int)(k:Nat):0<=qS L k/\qS L k<=1099511627776/\(0<qS L k->jY (qS L k)=true):=by
 have h6:=oO (L:=L) (k:=k) (n:=6) GC;have h20:=oO (L:=L) (k:=dM L k) (n:=20) GC;unfold qS;split
 ·exact⟨GC,GC,GC⟩
 ·split
  ·exact⟨GC,GC,λ_=>Px⟩
  ·refine⟨GC,GC,λ_=>?_⟩;rw[jY,decide_eq_true_eq];omega
def ML{L:List Int}{k:Nat}(h:k<=L.length):wG L k<=L.length:=by
 unfold wG;split
 ·exact iY h
 ·exact iY (iY h)
structure MM(m:aj)(qV options:Nat):Prop where
 vm:VM m
 nr:m.cls.length<=qV
 some:∀ l∈m.cls,1<=l.length/\l.length<=options
 jq:1<=m.rules/\m.rules<=4
 av:m.av.length<=2
def VM.mb{m:aj}(h:VM m):MB m:=by
 refine⟨by have:=h.cls;omega,λl hl=>by have:=h.opt l hl;omega,λl hl o ho=>?_,by have:=h.ae;omega,λp hp=>?_,by have:=h.av;omega,λc hc=>?_⟩
 ·have:=EP h.jq.1 (h.mA l hl o ho);have:=h.jq;omega
 ·obtain⟨_,h1,h2,h3,h4⟩:=lT (iA h.pr p hp);have a:=h.opt _ (ay (l:=m.cls) (i:=p.fst.toNat) (d:=default) GC);have b:=h.opt _ (ay (l:=m.cls) (i:=p.snd.toNat) (d:=default) GC);have:((m.cls.getD p.fst.toNat default).length:Int)*(m.cls.getD p.snd.toNat default).length<=24*24:=qj GC GC GC GC;omega
 ·have:=AQ h (lS (h.ct c hc)).2.2.2;omega
def dm(L:List Int)(k:Nat)(cls:List (List bU))(ae:List Pr)(av:List Ct)(R:Int):List Ob :=
 [.var [.tree 1 (ints L),aaC k],.var [.lit (.slice none 0 0),.lit (.slice none 0 0),.lit (.slice none 0 0),aaC 0],
  .var [.ref 3 1 0 cls.length,.ref 4 4 0 ae.length,.ref 5 4 0 av.length,aaC R],.arr 1 (rowsOf bu cls),.arr 4 (rowsOf aP ae),.arr 4 (rowsOf aV av)]
def YJ(R:Int)(l:List bU):Prop:=∀ o∈l,eo R none o.ch=true
def E3(p:Pr)(u i k:Nat):Prop:=p.bz<u\/(p.bz=u/\(p.fst<i\/(p.fst=i/\p.snd<k)))
structure yd(cls:List (List bU))(R:Int)(ae:List Pr)(u i k:Nat):Prop where
 ok:fH ⟨cls,[],[],R⟩ none ae=true
 lt:∀ p∈ae,E3 p u i k
 len:ae.length<=576*u+24*i+k
def yd.mono{cls:List (List bU)}{R:Int}{ae:List Pr}{u i k u' i' k':Nat}(h:yd cls R ae u i k)(hl:u<u'\/(u=u'/\(i<i'\/(i=i'/\k<=k'))))(hs:576*u+24*i+k<=576*u'+24*i'+k'):yd cls R ae u' i' k' :=
 ⟨h.ok,λp hp=>by have:=h.lt p hp;unfold E3 at *;omega,by have:=h.len;omega⟩
def yd.app{cls:List (List bU)}{R:Int}{ae:List Pr}{u i k:Nat}(h:yd cls R ae u i k){aB:List Int}(hp:gH ⟨cls,[],[],R⟩ ⟨i,k,u,aB⟩=true):yd cls R (ae++[⟨i,k,u,aB⟩]) u i (k+1):=by
 refine⟨YF h.ok hp (λx hx=>?_) GF,λp hp=>?_,by have:=h.len;simp;omega⟩
 ·have:=h.lt x hx;rw[MH];unfold E3 at this;dsimp only;omega
 ·rcases cH.1 hp with hp|hp
  ·have:=h.lt p hp;unfold E3 at *;omega
  ·simp only[fE]at hp;subst hp;unfold E3;dsimp only;omega
def ahE{cls:List (List bU)}{R:Int}{aB:List Int}{i k u:Nat}(hu:(u:Int)<R)(hik:i<k)(hk:k<cls.length)(ht:aB.length=(cls.getD i default).length*(cls.getD k default).length)(hc:∀ x∈aB,0<=x/\(0<x->jY x=true)):
  gH ⟨cls,[],[],R⟩ ⟨i,k,u,aB⟩=true:=by
 unfold gH jI;simp only[bw,decide_eq_true_eq,ld,fq,yL];refine⟨⟨⟨GC,hu⟩,GC,GC,GC,?_⟩,λx hx=>?_⟩
 ·rw[ht];simp
 ·unfold pY;have:=hc x hx;by_cases h0:x=0
  ·subst h0;decide
  ·rw[this.2 GC];simp
structure zB(cls:List (List bU))(R:Int)(l:List Ld)(i k:Nat):Prop where
 ok:eI ⟨cls,[],[],R⟩ none l=true
 lt:∀ x∈l,x.cls<i\/(x.cls=i/\x.opt<k)
 len:l.length<=24*i+k
def zB.mono{cls:List (List bU)}{R:Int}{l:List Ld}{i k i' k':Nat}(h:zB cls R l i k)(hl:i<i'\/(i=i'/\k<=k'))(hs:24*i+k<=24*i'+k'):zB cls R l i' k' :=
 ⟨h.ok,λp hp=>by have:=h.lt p hp;omega,by have:=h.len;omega⟩
def zB.app{cls:List (List bU)}{R:Int}{l:List Ld}{i k:Nat}(h:zB cls R l i k){w:Int}(hi:i<cls.length)(hk:k<(cls.getD i default).length)(hw:1<=w/\w<=1000):zB cls R (l++[⟨i,k,w⟩]) i (k+1):=by
 refine⟨YG h.ok (fD.2 ⟨PA,PA,PA,by simp;exact hk⟩) hw (λx hx=>?_) GF,λp hp=>?_,by have:=h.len;simp;omega⟩
 ·have:=h.lt x hx;rw[Iv];dsimp only;omega
 ·rcases cH.1 hp with hp|hp
  ·have:=h.lt p hp;omega
  ·simp only[fE]at hp;subst hp;dsimp only;omega
def Iw:(default:bU).ch=[]:=rfl
def YK{m:aj}(hm:VM m):∀ (plan:List Int) (i:Nat) (out:List Int),jt m.rules out->jt m.rules (oP m i plan out)
 |[],_,_,h=>h
 |o::r,i,out,h=>by
  rw[oP];refine YK hm r (i+1) _ ?_;split
  ·exact h
  ·refine YC h λc hc=>?_;rcases fK i m.cls.length with hi|hi
   ·have hl:=ay (d:=(default:List bU)) hi;generalize m.cls.getD i default=l at *;rcases fK o.toNat l.length with ho|ho
    ·exact(xZ (hm.mA l hl _ (ay ho)) c hc).2
    ·rw[show l.getD o.toNat default=default by rw[aA,dW ho];rfl]at hc;exact absurd hc (by rw[Iw];simp)
   ·rw[show m.cls.getD i default=[] by rw[aA,dW hi];rfl]at hc;exact absurd hc (by rw[List.getD_nil,Iw];simp)
def YL{m:aj}{plan:List Int}:∀ (l:List Pr) (out:List Int),(∀ p∈l,gH m p=true)->jt m.rules out->jt m.rules (n5 m plan l out)
 |[],_,_,h=>h
 |p::r,out,hp,h=>by
  rw[n5];refine YL r _ (λq hq=>hp q (by simp[hq])) ?_;split
  ·exact h.add (CG (hp p GF) _ _)
  ·exact h
def YM{m:aj}{plan:List Int}:∀ (l:List Ct) (out:List Int),(∀ c∈l,iQ m c=true)->jt m.rules out->jt m.rules (oQ plan l out)
 |[],_,_,h=>h
 |c::r,out,hp,h=>by
  rw[oQ];exact YM r _ (λq hq=>hp q (by simp[hq])) (h.add (CF (lz (lS (hp c GF)).2.2.1)))
def Ix{m:aj}(hm:VM m)(plan:List Int):jt m.rules (jr m plan) :=
 YM _ _ hm.ct (YL _ _ (iA hm.pr) (YK hm _ _ _ (jt.rep hm.jq.1)))
def kj:List Int->Int
 |[]=>0
 |x::r=>x+kj r
def MN:∀ {l:List Int},(∀ x∈l,b7 x)->0<=kj l/\kj l<=1099511627776*l.length
 |[],_=>by simp[kj]
 |x::r,h=>by
  have:=MN λy hy=>h y (List.mem_cons_of_mem x hy);have:=h x GF;unfold b7 at this;simp only[kj,eB];omega
def Iy:∀ {l:List Int} {n:Int},(∀ x∈l,b7 x)->b7 n->jX l n=min (n+kj l) 1099511627776
 |[],n,_,hn=>by unfold b7 at hn;simp only[jX,kj];omega
 |x::r,n,h,hn=>by
  have hx:=h x GF;have hr:∀ y∈r,b7 y:=λy hy=>h y (by simp[hy]);rw[jX,Iy hr (A2 hn hx)];have:=MN hr;unfold b7 at hx hn;simp only[ee,kj];omega
def MO:∀ {l:List Int},(∀ x∈l,b7 x)->∀ x∈l,x<=kj l
 |[],_,x,hx=>by simp at hx
 |y::r,h,x,hx=>by
  have hr:∀ z∈r,b7 z:=λz hz=>h z (by simp[hz]);have:=(MN hr).1;have hy:=h y GF;unfold b7 at hy;rcases cB.1 hx with rfl|hx
  ·simp only[kj];omega
  ·have:=MO hr x hx;simp only[kj];omega
def gP:List Ld->Int->Int->Int->Int
 |[],_,_,w=>w
 |x::r,c,o,w=>gP r c o (if x.cls=c/\x.opt=o then x.wt else w)
def eM(l:List Ld)(c:Int):Nat->List Bool->Int->Int
 |_,[],b=>b
 |o,is::r,b=>eM l c (o+1) r (if is=true/\(b<0\/gP l c o 0<b) then gP l c o 0 else b)
def ny(l:List Ld)(c:Int)(row:List Bool):Int:=max (eM l c 0 row (-1)) 0
def k7(l:List Ld):Nat->List (List Bool)->Int->Int
 |_,[],n=>n
 |i,row::r,n=>k7 l (i+1) r (n+ny l i row)
def jJ(left:List (List Bool))(c:Ct):Int:=j4 c.most c.bM (k7 c.aH 0 left 0)
def YN(l:List Ld)(x:Ld)(c o:Int):∀ w,gP (l++[x]) c o w=if x.cls=c/\x.opt=o then x.wt else gP l c o w:=by
 induction l with
 |nil=>intro w;rfl
 |cons y r ih=>intro w;exact ih _
def MP:∀ {l:List Ld} {c:Int} (o w:Int),(∀ x∈l,x.cls≠c)->gP l c o w=w
 |[],_,_,_,_=>rfl
 |x::r,c,o,w,h=>by
  rw[gP,if_neg (λe=>h x GF e.1)];exact MP o w λy hy=>h y (by simp[hy])
def zC{l:List Ld}(h:∀ x∈l,1<=x.wt/\x.wt<=1000)(c o:Int):∀ w,0<=w/\w<=1000->0<=gP l c o w/\gP l c o w<=1000:=by
 induction l with
 |nil=>intro w hw;exact hw
 |cons x r ih =>
  intro w hw;rw[gP];refine ih (λy hy=>h y (by simp[hy])) _ ?_;have:=h x GF;split<;>omega
def YO{l:List Ld}{c:Int}(h:∀ x∈l,x.cls≠c):∀ (row:List Bool) (o:Nat) (b:Int),-1<=b/\b<=0->-1<=eM l c o row b/\eM l c o row b<=0
 |[],_,b,hb=>hb
 |is::r,o,b,hb=>by
  rw[eM];refine YO h r (o+1) _ ?_;rw[MP _ _ h];split<;>omega
def YP{l:List Ld}{c:Int}(h:∀ x∈l,x.cls≠c)(row:List Bool):ny l c row=0:=by
 have:=YO h row 0 (-1) GC;unfold ny;omega
def Iz{l:List Ld}(h:∀ x∈l,1<=x.wt/\x.wt<=1000)(c:Int):∀ (row:List Bool) (o:Nat) (b:Int),-1<=b/\b<=1000->-1<=eM l c o row b/\eM l c o row b<=1000
 |[],_,b,hb=>hb
 |is::r,o,b,hb=>by
  rw[eM];refine Iz h c r (o+1) _ ?_;have:=zC h c o 0 GC;split<;>omega
def YQ{l:List Ld}(h:∀ x∈l,1<=x.wt/\x.wt<=1000)(c:Int)(row:List Bool):0<=ny l c row/\ny l c row<=1000:=by
 have:=Iz h c row 0 (-1) GC;unfold ny;omega
def bE(f:Nat->Int):Nat->Int
 |0=>0
 |n+1=>bE f n+f n
def jK{f g:Nat->Int}:∀ (n:Nat),(∀ i<n,f i=g i)->bE f n=bE g n
 |0,_=>rfl
 |n+1,h=>by rw[bE,bE,jK n λi hi=>h i GC,h n GC]
def E4{f:Nat->Int}{B:Int}:∀ (n:Nat),(∀ i<n,0<=f i/\f i<=B)->0<=bE f n/\bE f n<=B*n
 |0,_=>by simp[bE]
 |n+1,h=>by
  have h1:=E4 n λi hi=>h i GC;have h2:=h n GC;rw[bE,Int.natCast_add,Int.mul_add];simp only[Int.cast_ofNat_Int,Int.mul_one];omega
def zD(f:Nat->Int)(k:Nat)(v:Int):∀ (n:Nat),bE (λi=>if i=k then f i+v else f i) n=bE f n+if k<n then v else 0
 |0=>by simp[bE]
 |n+1=>by
  rw[bE,bE,zD f k v n];by_cases h:n=k
  ·subst h;rw[if_pos rfl,if_neg GC,if_pos GC];omega
  ·rw[if_neg h];by_cases h2:k<n
   ·rw[if_pos h2,if_pos GC];omega
   ·rw[if_neg h2,if_neg GC];omega
def zE(f:Nat->Int):∀ n,bE f (n+1)=f 0+bE (λi=>f (i+1)) n
 |0=>by simp[bE]
 |n+1=>by rw[bE,zE f n,bE];omega
def CH(l:List Ld):∀ (left:List (List Bool)) (i:Nat) (n:Int),k7 l i left n=n+bE (λj=>ny l (i+j:Nat) (left.getD j [])) left.length
 |[],i,n=>by simp[k7,bE]
 |row::r,i,n=>by
  rw[k7,CH l r (i+1),eB,zE];simp only[iF,fU,Nat.add_zero];rw[jK (g:=λj=>ny l (i+(j+1):Nat) (r.getD j [])) r.length λj _=>by rw[show i+1+j=i+(j+1) by omega]];omega
def E5{l:List Ld}(h:∀ x∈l,1<=x.wt/\x.wt<=1000)(left:List (List Bool)):0<=k7 l 0 left 0/\k7 l 0 left 0<=1000*left.length:=by
 rw[CH,z8];exact E4 _ λi _=>YQ h _ _
abbrev n6:=Int×Nat×List (Int×Int)
def vE(es:List (Int×Int)):List (Int×Value):=es.map λp=>(p.1,.int .i64 p.2)
def gE(A:List n6):List (Int×Value):=A.map λe=>(e.1,.map (some e.2.1))
def A3(o w:Int):List (Int×Int)->List (Int×Int)
 |[]=>[(o,w)]
 |p::r=>if p.1=o then(o,w)::r else p::A3 o w r
def wH(o:Int):List (Int×Int)->Int
 |[]=>0
 |p::r=>if p.1=o then p.2 else wH o r
def YR(o w:Int):∀ es,lv o (.int .i64 w) (vE es)=vE (A3 o w es)
 |[]=>rfl
 |p::r=>by
  show lv o _ ((p.1,Value.int .i64 p.2)::vE r)=_;rw[lv,A3];by_cases h:p.1=o
  ·rw[if_pos h,if_pos h];rfl
  ·rw[if_neg h,if_neg h,YR o w r];rfl
def YS(o:Int):∀ es,(oH o (vE es)).getD (.int .i64 0)=.int .i64 (wH o es)
 |[]=>rfl
 |p::r=>by
  show(oH o ((p.1,Value.int .i64 p.2)::vE r)).getD _=_;rw[oH,wH];by_cases h:p.1=o
  ·rw[if_pos h,if_pos h];rfl
  ·rw[if_neg h,if_neg h,YS o r]
def YT(o w x:Int):∀ es,wH x (A3 o w es)=if o=x then w else wH x es
 |[]=>rfl
 |p::r=>by
  rw[A3];by_cases h:p.1=o
  ·rw[if_pos h,wH,wH];by_cases h2:o=x
   ·rw[if_pos h2,if_pos h2]
   ·rw[if_neg h2,if_neg h2,if_neg GC]
  ·rw[if_neg h,wH,wH,YT o w x r];by_cases h2:p.1=x
   ·rw[if_pos h2,if_neg GC,if_pos h2]
   ·rw[if_neg h2,if_neg h2]
def MQ(c:Int):∀ A:List n6,(oH c (gE A)=none/\∀ e∈A,e.1≠c)\/∃ e∈A,e.1=c/\oH c (gE A)=some (.map (some e.2.1))
 |[]=>.inl ⟨rfl,GF⟩
 |e::r=>by
  show(oH c ((e.1,Value.map (some e.2.1))::gE r)=none/\_)\/_;by_cases h:e.1=c
  ·right;refine⟨e,GF,h,?_⟩;show oH c ((e.1,Value.map (some e.2.1))::gE r)=_;rw[oH,if_pos h]
  ·rcases MQ c r with⟨h1,h2⟩|⟨e',h1,h2,h3⟩
   ·left;refine⟨by rw[oH,if_neg h];exact h1,λx hx=>?_⟩;rcases cB.1 hx with rfl|hx
    ·exact h
    ·exact h2 x hx
   ·right;refine⟨e',by simp[h1],h2,?_⟩;show oH c ((e.1,Value.map (some e.2.1))::gE r)=_;rw[oH,if_neg h];exact h3
def YU(c:Int)(b:Nat):∀ A:List n6,(∀ e∈A,e.1≠c)->lv c (.map (some b)) (gE A)=gE (A++[(c,b,[])])
 |[],_=>rfl
 |e::r,h=>by
  show lv c _ ((e.1,Value.map (some e.2.1))::gE r)=_;rw[lv,if_neg (h e GF),YU c b r λx hx=>h x (by simp[hx])];rfl
structure GI(R:Nat)(dn:List Ld)(A:List n6)(b0:Nat)(μ:Mem):Prop where
 top:μ b0=some (.map (iE (gE A)))
 sub:∀ e∈A,μ e.2.1=some (.map (iE (vE e.2.2)))
 CJ:∀ e∈A,e.2.1≠b0
 inj:∀ e∈A,∀ e'∈A,e.2.1=e'.2.1->e=e'
 keys:(A.map (·.1)).Nodup
 val:∀ e∈A,∀ o,wH o e.2.2=gP dn e.1 o 0
 has:∀ x∈dn,∃ e∈A,e.1=x.cls
 A4:∀ e∈A,0<=e.1/\e.1<R
def GI.nil{R b0:Nat}{μ:Mem}(h:μ b0=some (.map [])):GI R [] [] b0 μ:=⟨h,GF,GF,GF,GF,GF,GF,GF⟩
def GI.new{R:Nat}{dn:List Ld}{A:List n6}{b0:Nat}{μ:Mem}(h:GI R dn A b0 μ){c:Int}(hcR:0<=c/\c<R)(hc:∀ e∈A,e.1≠c){b:Nat}(hb:μ b=none):GI R dn (A++[(c,b,[])]) b0 (mo (mo μ b (.map [])) b0 (.map (iE (lv c (.map (some b)) (gE A))))):=by
 have n7:b≠b0:=λe=>by rw[e,h.top]at hb;cases hb
 have sP:∀ e∈A,e.2.1≠b:=λe he e2=>by have:=h.sub e he;rw[e2,hb]at this;cases this
 refine⟨by rw[zi,YU c b A hc],λe he=>?_,λe he=>?_,λe he e' si hh=>?_,?_,λe he o=>?_,λx hx=>?_,λe he=>?_⟩
 ·rcases cH.1 he with he|he
  ·rw[wq _ _ (h.CJ e he),wq _ _ (sP e he)];exact h.sub e he
  ·simp only[fE]at he;subst he;rw[wq _ _ n7,zi];rfl
 ·rcases cH.1 he with he|he
  ·exact h.CJ e he
  ·simp only[fE]at he;subst he;exact n7
 ·rcases cH.1 he with he|he<;>rcases cH.1 si with si|si
  ·exact h.inj e he e' si hh
  ·simp only[fE]at si;subst si;exact absurd hh (sP e he)
  ·simp only[fE]at he;subst he;exact absurd hh.symm (sP e' si)
  ·simp only[fE]at he si;rw[he,si]
 ·rw[List.map_append,List.nodup_append];refine⟨h.keys,GF,λa ha b' du=>?_⟩;obtain⟨e,he,rfl⟩:=cz.1 ha;simp only[dg,List.map_nil,fE]at du;rw[du];exact hc e he
 ·rcases cH.1 he with he|he
  ·exact h.val e he o
  ·simp only[fE]at he;subst he;rw[MP]
   ·rfl
   ·intro x hx u6;obtain⟨e,he,ye⟩:=h.has x hx;exact hc e he (ye.trans u6)
 ·obtain⟨e,he,ye⟩:=h.has x hx;exact⟨e,List.mem_append_left _ he,ye⟩
 ·rcases cH.1 he with he|he
  ·exact h.A4 e he
  ·simp only[fE]at he;subst he;exact hcR
def gW(c o w:Int)(A:List n6):List n6:=A.map λe=>if e.1=c then(e.1,e.2.1,A3 o w e.2.2) else e
def ahG(c o w:Int)(A:List n6):gE (gW c o w A)=gE A:=by
 unfold gE gW;rw[uD];refine l8 λe _=>?_;simp only[Function.comp];split<;>rfl
def GI.put{R:Nat}{dn:List Ld}{A:List n6}{b0:Nat}{μ:Mem}(h:GI R dn A b0 μ){x:Ld}{e0:n6}(pO:e0∈A)(hc:e0.1=x.cls):GI R (dn++[x]) (gW x.cls x.opt x.wt A) b0 (mo μ e0.2.1 (.map (iE (lv x.opt (.int .i64 x.wt) (vE e0.2.2))))):=by
 have uniq:∀ e∈A,e.1=x.cls->e=e0:=λe he hh=>by
  have hk:=h.keys;obtain⟨i,hi,rfl⟩:=uz.1 he;obtain⟨j,hj,rfl⟩:=uz.1 pO;have:i=j:=(List.getElem_inj (h₀:=by simpa using hi) (h₁:=by simpa using hj) hk).1 (by simp only[List.getElem_map];rw[hh,hc]);subst this;rfl
 have one:∀ e∈gW x.cls x.opt x.wt A,(e=(e0.1,e0.2.1,A3 x.opt x.wt e0.2.2))\/(e∈A/\e.1≠x.cls):=λe he=>by
  obtain⟨e',si,rfl⟩:=cz.1 he;by_cases hh:e'.1=x.cls
  ·left;rw[if_pos hh,uniq e' si hh]
  ·right;rw[if_neg hh];exact⟨si,hh⟩
 have sP:∀ e∈A,e.1≠x.cls->e.2.1≠e0.2.1:=λe he hh e2=>hh (by rw[h.inj e he e0 pO e2,hc]);refine⟨by rw[wq _ _ (h.CJ e0 pO).symm,ahG];exact h.top,λe he=>?_,λe he=>?_,λe he e' si hh=>?_,?_,λe he o=>?_,λy hy=>?_,λe he=>?_⟩
 ·rcases one e he with rfl|⟨h1,h2⟩
  ·rw[zi,YR]
  ·rw[wq _ _ (sP e h1 h2)];exact h.sub e h1
 ·rcases one e he with rfl|⟨h1,h2⟩
  ·exact h.CJ e0 pO
  ·exact h.CJ e h1
 ·rcases one e he with rfl|⟨h1,h2⟩<;>rcases one e' si with rfl|⟨h3,h4⟩
  ·rfl
  ·exact absurd hh.symm (sP e' h3 h4)
  ·exact absurd hh (sP e h1 h2)
  ·exact h.inj e h1 e' h3 hh
 ·have:(gW x.cls x.opt x.wt A).map (·.1)=A.map (·.1):=by
   unfold gW;rw[uD];refine l8 λe _=>?_;simp only[Function.comp];split<;>rfl
  rw[this];exact h.keys
 ·rw[YN];rcases one e he with rfl|⟨h1,h2⟩
  ·dsimp only;rw[YT,h.val e0 pO o];by_cases ho:x.opt=o
   ·rw[if_pos ho,if_pos ⟨hc.symm,ho⟩]
   ·rw[if_neg ho,if_neg (λe=>ho e.2)]
  ·rw[if_neg (λe=>h2 e.1.symm)];exact h.val e h1 o
 ·have mem:∀ e∈A,∃ e'∈gW x.cls x.opt x.wt A,e'.1=e.1:=λe he=>⟨_,List.mem_map_of_mem he,by split<;>rfl⟩;rcases cH.1 hy with hy|hy
  ·obtain⟨e,he,ye⟩:=h.has y hy;obtain⟨e',k1,k2⟩:=mem e he;exact⟨e',k1,k2.trans ye⟩
  ·simp only[fE]at hy;subst hy;obtain⟨e',k1,k2⟩:=mem e0 pO;exact⟨e',k1,k2.trans hc⟩
 ·rcases one e he with rfl|⟨h1,h2⟩
  ·exact h.A4 e0 pO
  ·exact h.A4 e h1
def zF(f:Int->Int):List n6->Int
 |[]=>0
 |e::r=>f e.1+zF f r
def MR(f:Int->Int)(n:Nat):∀ A:List n6,(A.map (·.1)).Nodup->(∀ e∈A,0<=e.1/\e.1<n)->zF f A=bE (λi=>if∃e∈A,e.1=(i:Int) then f i else 0) n
 |[],_,_=>by
  rw[jK (g:=λ_=>0) n (λi _=>GF)];have:∀ n,bE (λ_=>0) n=0:=λn=>by induction n with|zero=>rfl|succ n ih=>rw[bE,ih];rfl
  rw[this];rfl
 |e::r,hn,hr=>by
  rw[dg,List.nodup_cons]at hn;rw[zF,MR f n r hn.2 λx hx=>hr x (by simp[hx])];have h0:=hr e GF;have ahH:¬∃x∈r,x.1=((e.1.toNat:Nat):Int):=by
   rintro⟨x,hx,hh⟩;rw[sG h0.1]at hh;exact hn.1 (cz.2 ⟨x,hx,hh⟩)
  have:=zD (λi=>if∃x∈r,x.1=(i:Int) then f i else 0) e.1.toNat (f e.1) n;rw[if_pos GC]at this;rw[Int.add_comm,<- this];refine jK n λi hi=>?_;by_cases h:i=e.1.toNat
  ·subst h;rw[if_pos rfl,if_neg ahH,if_pos ⟨e,GF,GC⟩,sG h0.1];omega
  ·rw[if_neg h];have:(∃ x∈e::r,x.1=(i:Int))↔∃ x∈r,x.1=(i:Int):=by
    constructor
    ·rintro⟨x,hx,hh⟩;rcases cB.1 hx with rfl|hx
     ·omega
     ·exact⟨x,hx,hh⟩
    ·rintro⟨x,hx,hh⟩;exact⟨x,by simp[hx],hh⟩
   simp only[this]
def YV:∀ A:List n6,zF (λ_=>1) A=A.length
 |[]=>rfl
 |e::r=>by rw[zF,YV r,eB];omega
def GI.len{R:Nat}{dn:List Ld}{A:List n6}{b0:Nat}{μ:Mem}(h:GI R dn A b0 μ):A.length<=R:=by
 have h1:=MR (λ_=>1) R A h.keys h.A4;rw[YV]at h1;have h2:=E4 (f:=λi=>if∃e∈A,e.1=(i:Int) then(1:Int) else 0) (B:=1) R λi _=>by split<;>omega
 omega
def GI.sum{dn:List Ld}{A:List n6}{b0:Nat}{μ:Mem}{left:List (List Bool)}(h:GI left.length dn A b0 μ):zF (λc=>ny dn c (left.getD c.toNat [])) A=k7 dn 0 left 0:=by
 rw[MR _ left.length A h.keys h.A4,CH,z8];refine jK _ λi _=>?_;simp only[gn,fq];by_cases hh :∃e∈A,e.1=(i:Int)
 ·rw[if_pos hh]
 ·rw[if_neg hh,YP];intro x hx u6;obtain⟨e,he,ye⟩:=h.has x hx;exact hh ⟨e,he,ye.trans u6⟩
def wI(f:Nat->Int)(seen:List Nat)(n:Nat):Int:=bE (λi=>if i∈seen then f i else 0) n
def IA(seen:List Nat)(n:Nat):Nat:=(bE (λi=>if i∈seen then 0 else 1) n).toNat
def ahI{f:Nat->Int}{seen:List Nat}{n j:Nat}(hj:j<n)(hs:j ∉ seen):wI f (seen++[j]) n=wI f seen n+f j:=by
 unfold wI;have:=zD (λi=>if i∈seen then f i else 0) j (f j) n;rw[if_pos hj]at this;rw[<- this];refine jK n λi _=>?_;by_cases h:i=j
 ·subst h;rw[if_pos GF,if_pos rfl,if_neg hs];omega
 ·rw[if_neg h];simp[h]
def ahJ{seen:List Nat}{n j:Nat}(hj:j<n)(hs:j ∉ seen):IA (seen++[j]) n<IA seen n:=by
 unfold IA;have h1:=zD (λi=>if i∈seen then(0:Int) else 1) j (-1) n;rw[if_pos hj]at h1;have h2:bE (λi=>if i∈seen++[j] then(0:Int) else 1) n=bE (λi=>if i=j then(if i∈seen then 0 else 1)+-1 else if i∈seen then 0 else 1) n:=by
  refine jK n λi _=>?_;by_cases h:i=j
  ·subst h;rw[if_pos GF,if_pos rfl,if_neg hs];rfl
  ·rw[if_neg h];simp[h]
 have h3:=(E4 (f:=λi=>if i∈seen++[j] then(0:Int) else 1) (B:=1) n λi _=>by split<;>omega).1;omega
def ahK{f:Nat->Int}{seen:List Nat}{n:Nat}(h:∀ j<n,j∈seen):wI f seen n=bE f n:=jK n λi hi=>if_pos (h i hi)
def ahL(f:Nat->Int)(n:Nat):wI f [] n=0:=by
 unfold wI;rw[jK (g:=λ_=>0) n (λi _=>GF)]
 induction n with|zero=>rfl|succ n ih=>rw[bE,ih];rfl
def YW(f:Int->Int):∀ A:List n6,bE (λj=>f (A.getD j (0,0,[])).1) A.length=zF f A
 |[]=>rfl
 |e::r=>by
  rw[eB,zE,zF];simp only[iF,fU];rw[YW f r]
def ahM{f:Nat->Int}{B:Int}{seen:List Nat}{n:Nat}(hB:0<=B)(h:∀ i<n,0<=f i/\f i<=B):0<=wI f seen n/\wI f seen n<=B*n :=
 E4 n λi hi=>by have:=h i hi;split<;>omega
def YX(L:List (Int×Value))(j:Nat):(iE L)[j]?=L[j]?.map λp=>(.int .i64 p.1,p.2):=by simp[iE]
def YY(A:List n6)(j:Nat):(gE A)[j]?=A[j]?.map λe=>(e.1,.map (some e.2.1)):=by simp[gE]
def IB(A:List n6):(iE (gE A)).length=A.length:=by simp[gE,iE]
def GI.other{R:Nat}{dn:List Ld}{A:List n6}{b0:Nat}{μ:Mem}(h:GI R dn A b0 μ){r:Nat}(g:Gh)(hr:∀ l,μ r≠some (.map l)):GI R dn A b0 (mo μ r g) :=
 ⟨by rw[wq _ _ (λe=>hr _ (e▸h.top))];exact h.top,λe he=>by rw[wq _ _ (λe2=>hr _ (e2▸h.sub e he))];exact h.sub e he,h.CJ,h.inj,h.keys,h.val,h.has,h.A4⟩
def MS(l:List Ld)(c:Int)(is:Bool):∀ (row:List Bool) (i:Nat) (b:Int),eM l c i (row++[is]) b =
  if is=true/\(eM l c i row b<0\/gP l c (i+row.length:Nat) 0<eM l c i row b) then gP l c (i+row.length:Nat) 0 else eM l c i row b
 |[],i,b=>rfl
 |x::r,i,b=>by
  show eM l c (i+1) (r++[is]) _=_;rw[MS l c is r (i+1),eM,eB,show i+1+r.length=i+(r.length+1) by omega]
end T

