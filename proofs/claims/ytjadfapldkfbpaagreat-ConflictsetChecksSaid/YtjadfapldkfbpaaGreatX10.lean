import Derived.Test.YtjadfapldkfbpaaGreatX07
set_option linter.all false
set_option maxHeartbeats 0
set_option maxRecDepth 20000
open List renaming getD_eq_getElem?_getD→aG,replicate→bG,getElem?_eq_none→ei,length_set→bw,any_eq_true→vU,mem_cons→cu,length_cons→eu,length_nil→k8,getD_cons_zero→jh,getD_cons_succ→gN,any_eq_false→yO,nil_append→dZ,cons_append→dP,mem_append→cz,mem_singleton→ec,filter_cons→z9,mem_map→cC,length_filter_le→DQ
open Nat renaming lt_or_ge→fN
open Bool renaming and_eq_true→bk,or_eq_true→kB,not_eq_true'→kz,not_eq_false→DP,false_or→lF
open Int renaming mul_nonneg→xz,mul_le_mul→rp
open Option renaming some→dD
open Go Go.Am
namespace T
def Rc:=aat @bX @fY @xS @Sj @LW @EG @rM
def dS(x:Int):Prop:=-9223372036854775808<=x/\x<=9223372036854775807
def ve(n m:Int):Int:=if m<1 then 0 else n%m
def Io(n m:Int)(hm:0<m):0<=ve n m/\ve n m<m:=by
 unfold ve;rw[if_neg G3];exact⟨Int.emod_nonneg _ G3,Int.emod_lt_of_pos _ G3⟩
def Mh(n m:Int)(hm:0<m):(n.tmod m<0->n%m=n.tmod m+m)/\(0<=n.tmod m->n%m=n.tmod m)/\-m<n.tmod m/\n.tmod m<m:=by
 have h1:=Int.emod_nonneg n (show m≠0 by omega);have h2:=Int.emod_lt_of_pos n hm;rcases Int.lt_or_le n 0 with hn|hn
 ·have h3:n.tmod m = -((-n)%m):=by
   have:=Int.neg_tmod (a:=-n) (b:=m);rw[Int.neg_neg]at this;rw[this,Int.tmod_eq_emod_of_nonneg G3]
  have h4:=Int.emod_nonneg (-n) (show m≠0 by omega);have h5:=Int.emod_lt_of_pos (-n) hm;have h6:=Int.mul_ediv_add_emod n m;have h7:=Int.mul_ediv_add_emod (-n) m;have key:(n%m=0/\(-n)%m=0)\/n%m=m-(-n)%m:=by
   by_cases hz:(-n)%m=0
   ·left;have hd:m ∣ -n:=Int.dvd_of_emod_eq_zero hz;have uX:m ∣ n:=(Int.dvd_neg).1 hd;exact⟨Int.emod_eq_zero_of_dvd uX,hz⟩
   ·right;have:n=m*(-((-n)/m)-1)+(m-(-n)%m):=by
     have : -n=m*((-n)/m)+(-n)%m:=h7.symm;rw[Int.mul_sub,Int.mul_neg];omega
    rw[this,Int.mul_add_emod_self_left];rw[<- this];exact Int.emod_eq_of_lt G3 G3
  rw[h3];refine⟨?_,?_,?_,?_⟩<;>omega
 ·rw[Int.tmod_eq_emod_of_nonneg hn];refine⟨?_,?_,?_,?_⟩<;>omega
def da(L:List Int)(CF:Nat)(n:Int):Int:=if CF >= L.length then 0 else ve (L.getD CF 0) n
def bR(L:List Int)(CF:Nat):Nat:=if CF >= L.length then CF else CF+1
def dN{L:List Int}{k:Nat}(h:k<=L.length):bR L k<=L.length:=by unfold bR;split<;>omega
def kd{L:List Int}{k:Nat}{n:Int}(h:0<n):0<=da L k n/\da L k n<n:=by
 unfold da;split
 ·omega
 ·exact Io _ _ h
def xV(L:List Int)(k:Nat)(n:Int):Bool:=decide (da L k n=n-1)
def aB{α:Type}{l:List α}{i:Nat}{d:α}(h:i<l.length):l.getD i d∈l:=by
 rw[aG,List.getElem?_eq_getElem h];exact List.getElem_mem h
def Ip{σ:St}{kp:Nat->Prop}{ρ:Nat->Nat}{snap:Bool}{a b c d e f:AV}(h:aI σ kp ρ snap a d)(k:aI σ kp ρ snap b e)(l:aI σ kp ρ snap c f):aI σ kp ρ snap (.bH [a,b,c]) (.bH [d,e,f]) :=
 .bH _ _ rfl (eY.spec (R:=aI σ kp ρ snap) (cs:=[a,b,c]) (ds:=[d,e,f]) ⟨h,k,l,trivial⟩).2
def fl(a b:Int):Int:=min (a+b) 1099511627776
def jH(n:Int):Bool:=decide ((1<=n/\n<=1048576)\/n=1099511627776)
def jI(R n:Int):Bool:=decide (0<=n/\n<R)
def eU(m:ah)(c o:Int):Bool:=decide (0<=c/\c<m.cls.length/\0<=o/\o<(m.cls.getD c.toNat default).length)
def pW(a b:Int):Int:=if a<b then -1 else if b<a then 1 else 0
def vf:List Int->Int
 |[]=>0
 |x::r=>if x≠0 then x else vf r
def mz(most b8 sum:Int):Int:=if sum<=most then 0 else min ((sum-most)*b8) 1099511627776
def CG(n c:Int):Int:=if n<=0 then 0 else if 1099511627776<=c then 1099511627776 else min (n*c) 1099511627776
def qE(L:List Int)(k:Nat):Int:=if da L k 6<3 then 0 else if da L k 6=3 then 1099511627776 else 1+da L (bR L k) 20
def wx(L:List Int)(k:Nat):Nat:=if da L k 6<=3 then bR L k else bR L (bR L k)
def mA{α:Type}[Inhabited α](l:List α)(k:Nat):Option α:=if k=0 then none else some (l.getD (k-1) default)
def eH(R:Int):Option (Int×Int)->List (Int×Int)->Bool
 |_,[]=>true
 |q,c::r=>(jI R c.1&&jH c.2&&(match q with|none=>true|some q=>decide (q.1<c.1)))&&eH R (some c) r
def o8(a b:Pr):Int:=vf [pW a.bF b.bF,pW a.fst b.fst,pW a.snd b.snd]
def pX(n:Int):Bool:=decide (n≠0)&&!jH n
def gL(m:ah)(p:Pr):Bool:=jI m.rules p.bF&&decide (0<=p.fst/\p.fst<p.snd/\p.snd<m.cls.length/\(p.aD.length:Int)=(m.cls.getD p.fst.toNat default).length*(m.cls.getD p.snd.toNat default).length)&&!p.aD.any pX
def fH(m:ah):Option Pr->List Pr->Bool
 |_,[]=>true
 |q,p::r=>(gL m p&&(match q with|none=>true|some q=>decide (o8 q p<0)))&&fH m (some p) r
def vg(a b:Ld):Int:=vf [pW a.cls b.cls,pW a.opt b.opt]
def eE(m:ah):Option Ld->List Ld->Bool
 |_,[]=>true
 |q,x::r=>(eU m x.cls x.opt&&decide (1<=x.wt/\x.wt<=1000)&&(match q with|none=>true|some q=>decide (vg q x<0)))&&eE m (some x) r
def iW(m:ah)(c:Ct):Bool:=jI m.rules c.bF&&decide (0<=c.most/\c.most<=1048576)&&jH c.b8&&eE m none c.aJ
def tU(m:ah):Bool:=decide (24<m.cls.length\/m.cls.any (λl=>decide (24<l.length))=true\/4000<m.ae.length\/800<m.ax.length\/m.rules<0\/56<m.rules)
def ek(m:ah):Int:=if tU m=true then 2 else if(m.cls.any λl=>l.any λo=>!eH m.rules none o.ch)=true then 1 else if fH m none m.ae=false then 1 else if(m.ax.any λc=>!iW m c)=true then 1 else 0
def qF(m:ah):Nat->List Int->Bool
 |_,[]=>true
 |i,o::r=>(decide (o = -1)||eU m i o)&&qF m (i+1) r
def qG(m:ah)(plan:List Int):Bool:=if plan.length≠m.cls.length then false else qF m 0 plan
def wy{α:Type}[Inhabited α](l:List α)(k:Nat):mA l (k+1)=some (l.getD k default):=by simp[mA]
def TQ{R:Int}{l r:List (Int×Int)}{k:Nat}{c:Int×Int}:eH R (mA l k) (c::r)=((jI R c.1&&jH c.2&&(decide (k=0)||decide ((l.getD (k-1) default).1<c.1)))&&eH R (some c) r):=by
 by_cases h:k=0<;>simp[mA,h,eH]
def TR{m:ah}{l r:List Pr}{k:Nat}{p:Pr}:fH m (mA l k) (p::r)=((gL m p&&(decide (k=0)||decide (o8 (l.getD (k-1) default) p<0)))&&fH m (some p) r):=by
 by_cases h:k=0<;>simp[mA,h,fH]
def TS{m:ah}{l r:List Ld}{k:Nat}{x:Ld}:eE m (mA l k) (x::r)=((eU m x.cls x.opt&&decide (1<=x.wt/\x.wt<=1000)&&(decide (k=0)||decide (vg (l.getD (k-1) default) x<0)))&&eE m (some x) r):=by
 by_cases h:k=0<;>simp[mA,h,eE]
structure MB(m:ah):Prop where
 cls:m.cls.length<9223372036854775808
 opt:∀ l∈m.cls,l.length<9223372036854775808
 ch:∀ l∈m.cls,∀ o∈l,o.ch.length<9223372036854775808
 ae:m.ae.length<9223372036854775808
 aD:∀ p∈m.ae,p.aD.length<9223372036854775808
 ax:m.ax.length<9223372036854775808
 mB:∀ c∈m.ax,c.aJ.length<9223372036854775808
def fI(out:List Int)(r c:Int):List Int:=out.set r.toNat (fl (out.getD r.toNat 0) c)
def rO:List (Int×Int)->List Int->List Int
 |[],out=>out
 |c::r,out=>rO r (fI out c.1 c.2)
def rP(m:ah):Nat->List Int->List Int->List Int
 |_,[],out=>out
 |i,o::r,out=>rP m (i+1) r (if o<0 then out else rO ((m.cls.getD i default).getD o.toNat default).ch out)
def o9(m:ah)(p:Pr)(x y:Int):Int:=p.aD.getD (x*(m.cls.getD p.snd.toNat default).length+y).toNat 0
def rQ(m:ah)(plan:List Int):List Pr->List Int->List Int
 |[],out=>out
 |p::r,out=>rQ m plan r (if 0<=plan.getD p.fst.toNat 0/\0<=plan.getD p.snd.toNat 0 then fI out p.bF (o9 m p (plan.getD p.fst.toNat 0) (plan.getD p.snd.toNat 0)) else out)
def ly(plan:List Int):List Ld->Int->Int
 |[],n=>n
 |x::r,n=>ly plan r (if plan.getD x.cls.toNat 0=x.opt then n+x.wt else n)
def rR(plan:List Int):List Ct->List Int->List Int
 |[],out=>out
 |c::r,out=>rR plan r (fI out c.bF (mz c.most c.b8 (ly plan c.aJ 0)))
def mC:List Int->Int->Int
 |[],n=>n
 |x::r,n=>mC r (fl n x)
def mZ(m:ah)(plan:List Int):List Int:=rR plan m.ax (rQ m plan m.ae (rP m 0 plan (bG m.rules.toNat 0)))
def CH(m:ah)(plan:List Int):Int×List Int:=(mC (mZ m plan) 0,mZ m plan)
def pd(m:ah)(plan:List Int):Int×List Int×Int :=
 if ek m≠0 then(0,[],ek m) else if qG m plan=false then(0,[],17) else((CH m plan).1,(CH m plan).2,0)
def bZ(x:Int):Prop:=0<=x/\x<=1099511627776
def AO{a b:Int}(ha:bZ a)(hb:bZ b):bZ (fl a b):=by unfold bZ fl at *;omega
def mD{n:Int}(h:jH n=true):bZ n:=by unfold jH at h;rw[decide_eq_true_eq]at h;unfold bZ;omega
def je(R:Int)(out:List Int):Prop:=(out.length:Int)=R/\∀ x∈out,bZ x
def je.get{R:Int}{out:List Int}(h:je R out)(i:Nat):bZ (out.getD i 0):=by
 rcases fN i out.length with hi|hi
 ·exact h.2 _ (aB hi)
 ·rw[aG,ei hi];unfold bZ;decide
def je.add{R:Int}{out:List Int}(h:je R out){r c:Int}(hc:bZ c):je R (fI out r c) :=
 ⟨by rw[fI,bw];exact h.1,λx hx=>by
  rcases List.mem_or_eq_of_mem_set hx with h'|h'
  ·exact h.2 x h'
  ·rw[h'];exact AO (h.get _) hc⟩
def je.rep{R:Int}(hR:0<=R):je R (bG R.toNat 0):=⟨PX,λx hx=>by
 have:=List.eq_of_mem_replicate hx;subst this;unfold bZ;decide⟩
structure VM(m:ah):Prop where
 cls:m.cls.length<=24
 opt:∀ l∈m.cls,l.length<=24
 ae:m.ae.length<=4000
 ax:m.ax.length<=800
 iI:0<=m.rules/\m.rules<=56
 oB:∀ l∈m.cls,∀ o∈l,eH m.rules none o.ch=true
 pr:fH m none m.ae=true
 ct:∀ c∈m.ax,iW m c=true
def iu{m:ah}:ek m=0↔VM m:=by
 unfold ek;constructor
 ·intro h;split at h
  ·omega
  split at h
  ·omega
  split at h
  ·omega
  split at h
  ·omega
  rename_i h1 h2 h3 h4;have Au:tU m=false:=by simpa using h1
  rw[tU,decide_eq_false_iff_not]at Au;have h5:∀ l∈m.cls,l.length<=24:=λl hl=>by
   rcases fN 24 l.length with h|h
   ·exact absurd (.inr (.inl (vU.2 ⟨l,hl,by simpa using h⟩))) Au
   ·exact h
  refine⟨G3,h5,G3,G3,G3,λl hl o ho=>?_,by simpa using h3,λc hc=>?_⟩
  ·cases hh:eH m.rules none o.ch with
   |true=>rfl
   |false=>exact absurd (vU.2 ⟨l,hl,vU.2 ⟨o,ho,by rw[hh];rfl⟩⟩) h2
  ·cases hh:iW m c with
   |true=>rfl
   |false=>exact absurd (vU.2 ⟨c,hc,by rw[hh];rfl⟩) h4
 ·intro h;have h0:tU m=false:=by
   rw[tU,decide_eq_false_iff_not];rintro(h'|h'|h'|h'|h'|h')
   ·have:=h.cls;omega
   ·obtain⟨l,hl,Iq⟩:=vU.1 h';have:=h.opt l hl;simp only[decide_eq_true_eq]at Iq;omega
   ·have:=h.ae;omega
   ·have:=h.ax;omega
   ·have:=h.iI;omega
   ·have:=h.iI;omega
  rw[if_neg (by rw[h0];simp),if_neg,if_neg (by rw[h.pr];simp),if_neg]
  ·intro hh;obtain⟨c,hc,h'⟩:=vU.1 hh;rw[h.ct c hc]at h';simp at h'
  ·intro hh;obtain⟨l,hl,h'⟩:=vU.1 hh;obtain⟨o,ho,Iq⟩:=vU.1 h';rw[h.oB l hl o ho]at Iq;simp at Iq
def AP{R:Int}:∀ {l:List (Int×Int)} {q:Option (Int×Int)},eH R q l=true->∀ c∈l,jI R c.1=true/\jH c.2=true
 |[],_,_,c,hc=>by simp at hc
 |x::r,q,h,c,hc=>by
  rw[eH.eq_def]at h;simp only[bk]at h;rcases cu.1 hc with rfl|hc
  ·exact h.1.1
  ·exact AP h.2 c hc
def Ir{R:Int}:∀ {l:List (Int×Int)} {q:Int×Int},eH R (some q) l=true->l=[]\/q.1+l.length<R
 |[],_,_=>.inl rfl
 |x::r,q,h=>by
  right;rw[eH]at h;simp only[bk,decide_eq_true_eq,jI]at h;rcases Ir h.2 with rfl|h5
  ·simp only[eu,k8];omega
  ·simp only[eu];omega
def ET{R:Int}{l:List (Int×Int)}(hR:0<=R)(h:eH R none l=true):(l.length:Int)<=R:=by
 cases l with
 |nil=>simpa using hR
 |cons x r =>
  rw[eH]at h;simp only[bk,decide_eq_true_eq,jI]at h;rcases Ir h.2 with rfl|h5
  ·simp only[eu,k8];omega
  ·simp only[eu];omega
def jy{m:ah}:∀ {l:List Pr} {q:Option Pr},fH m q l=true->∀ p∈l,gL m p=true
 |[],_,_,c,hc=>by simp at hc
 |x::r,q,h,c,hc=>by
  rw[fH.eq_def]at h;simp only[bk]at h;rcases cu.1 hc with rfl|hc
  ·exact h.1.1
  ·exact jy h.2 c hc
def iv{m:ah}{c o:Int}:eU m c o=true↔0<=c/\c<m.cls.length/\0<=o/\o<(m.cls.getD c.toNat default).length:=by rw[eU,decide_eq_true_eq]
def TT{m:ah}(h:VM m){c o:Int}(hb:eU m c o=true):0<=c/\c<24/\0<=o/\o<24:=by
 obtain⟨h1,h2,h3,h4⟩:=iv.1 hb;have:=h.cls;have:=h.opt _ (aB (l:=m.cls) (i:=c.toNat) (d:=default) G3);omega
def EU(a b:Int):(a<b/\pW a b = -1)\/(a=b/\pW a b=0)\/(b<a/\pW a b=1):=by
 unfold pW;rcases Int.lt_trichotomy a b with h|h|h
 ·left;exact⟨h,by rw[if_pos h]⟩
 ·right;left;exact⟨h,by rw[if_neg G3,if_neg G3]⟩
 ·right;right;exact⟨h,by rw[if_neg G3,if_pos h]⟩
def Is{a b:Ld}:vg a b<0↔a.cls<b.cls\/(a.cls=b.cls/\a.opt<b.opt):=by
 unfold vg;rcases EU a.cls b.cls with⟨h,e⟩|⟨h,e⟩|⟨h,e⟩<;>rcases EU a.opt b.opt with⟨h',e'⟩|⟨h',e'⟩|⟨h',e'⟩<;>simp[vf,e,e']<;>omega
def Mi{a b:Pr}:o8 a b<0↔a.bF<b.bF\/(a.bF=b.bF/\(a.fst<b.fst\/(a.fst=b.fst/\a.snd<b.snd))):=by
 unfold o8;rcases EU a.bF b.bF with⟨h,e⟩|⟨h,e⟩|⟨h,e⟩<;>rcases EU a.fst b.fst with⟨h',e'⟩|⟨h',e'⟩|⟨h',e'⟩<;>rcases EU a.snd b.snd with⟨h2,e2⟩|⟨h2,e2⟩|⟨h2,e2⟩<;>simp[vf,e,e',e2]<;>omega
def TU{m:ah}(hm:VM m):∀ {l:List Ld} {q:Ld},eE m (some q) l=true->0<=q.cls/\0<=q.opt/\q.opt<24->l=[]\/q.cls*24+q.opt+l.length<576
 |[],_,_,_=>.inl rfl
 |x::r,q,h,hq=>by
  right;rw[eE]at h;simp only[bk,decide_eq_true_eq]at h;obtain⟨⟨⟨h1,h2⟩,h3⟩,h4⟩:=h;obtain⟨a,b,c,d⟩:=TT hm h1;have bx:q.cls*24+q.opt<x.cls*24+x.opt:=by
   rcases Is.1 h3 with h|h<;>omega
  rcases TU hm h4 ⟨a,c,d⟩ with rfl|h5
  ·simp only[eu,k8];omega
  ·simp only[eu];omega
def AQ{m:ah}(hm:VM m){l:List Ld}(h:eE m none l=true):l.length<=576:=by
 cases l with
 |nil=>simp
 |cons x r =>
  rw[eE]at h;simp only[bk,decide_eq_true_eq]at h;obtain⟨a,b,c,d⟩:=TT hm h.1.1.1;rcases TU hm h.2 ⟨a,c,d⟩ with rfl|h5
  ·simp
  ·simp only[eu];omega
def rS{m:ah}:∀ {l:List Ld} {q:Option Ld},eE m q l=true->∀ x∈l,eU m x.cls x.opt=true/\1<=x.wt/\x.wt<=1000
 |[],_,_,c,hc=>by simp at hc
 |x::r,q,h,c,hc=>by
  rw[eE.eq_def]at h;simp only[bk,decide_eq_true_eq]at h;rcases cu.1 hc with rfl|hc
  ·exact⟨h.1.1.1,h.1.1.2⟩
  ·exact rS h.2 c hc
def Mj{m:ah}{plan:List Int}:∀ {l:List Ld},(∀ x∈l,1<=x.wt/\x.wt<=1000)->∀ n,n<=ly plan l n/\ly plan l n<=n+1000*l.length
 |[],_,n=>by simp[ly]
 |x::r,h,n=>by
  have hx:=h x G9;rw[ly];have:=Mj (m:=m) (plan:=plan) (l:=r) (λy hy=>h y (by simp[hy])) (if plan.getD x.cls.toNat 0=x.opt then n+x.wt else n);simp only[eu];split at this<;>split<;>simp_all<;>omega
def EV{most b8 sum:Int}(h:bZ b8):bZ (mz most b8 sum):=by
 unfold mz bZ at *;split
 ·omega
 ·have:0<=(sum-most)*b8:=xz G3 h.1;omega
def TV{R:Int}:∀ {l:List (Int×Int)} {out:List Int},je R out->(∀ c∈l,jH c.2=true)->je R (rO l out)
 |[],_,h,_=>h
 |c::r,out,h,hc=>by rw[rO];exact TV (h.add (mD (hc c G9))) λx hx=>hc x (by simp[hx])
def TX{m:ah}:∀ {plan:List Int} {i:Nat},qF m i plan=true->∀ j,j<plan.length->plan.getD j 0 = -1\/eU m ((i+j:Nat):Int) (plan.getD j 0)=true
 |[],_,_,j,hj=>by simp at hj
 |o::r,i,h,j,hj=>by
  rw[qF]at h;simp only[bk,kB,decide_eq_true_eq]at h;cases j with
  |zero=>rw[jh];exact h.1
  |succ j =>
   rw[gN];have:=TX h.2 j (by simpa using hj);rwa [show i+1+j=i+(j+1) by omega]at this
structure PM(m:ah)(plan:List Int):Prop where
 len:plan.length=m.cls.length
 get:∀ j,j<plan.length->plan.getD j 0 = -1\/eU m (j:Nat) (plan.getD j 0)=true
def Mk{m:ah}{plan:List Int}(h:qG m plan=true):PM m plan:=by
 unfold qG at h;split at h
 ·simp at h
 ·refine⟨G3,λj hj=>?_⟩;have:=TX h j hj;rwa [Nat.zero_add]at this
def m4{m:ah}{p:Pr}(h:gL m p=true):(0<=p.bF/\p.bF<m.rules)/\0<=p.fst/\p.fst<p.snd/\p.snd<m.cls.length/\(p.aD.length:Int)=(m.cls.getD p.fst.toNat default).length*(m.cls.getD p.snd.toNat default).length:=by
 unfold gL jI at h;simp only[bk,decide_eq_true_eq]at h;exact⟨h.1.1,h.1.2⟩
def wz{x y a b:Int}(hx:0<=x/\x<a)(hy:0<=y/\y<b)(ha:a<=24)(hb:b<=24):0<=x*b/\x*b<=576/\x*b+y<a*b:=by
 have h1:0<=x*b:=xz hx.1 G3;have h2:x*b<=(a-1)*b:=Int.mul_le_mul_of_nonneg_right G3 G3;have h3:(a-1)*b=a*b-b:=by rw[Int.sub_mul,Int.one_mul]
 have h4:a*b<=24*24:=rp ha hb G3 G3;omega
def nG{m:ah}{c:Ct}(h:iW m c=true):(0<=c.bF/\c.bF<m.rules)/\(0<=c.most/\c.most<=1048576)/\jH c.b8=true/\eE m none c.aJ=true:=by
 unfold iW jI at h;simp only[bk,decide_eq_true_eq]at h;exact⟨h.1.1.1,h.1.1.2,h.1.2,h.2⟩
def EW{m:ah}{p:Pr}(hp:gL m p=true)(x y:Int):bZ (o9 m p x y):=by
 unfold o9;rcases fN (x*(m.cls.getD p.snd.toNat default).length+y).toNat p.aD.length with h|h
 ·unfold gL at hp;simp only[bk,kz,yO]at hp;have:=hp.2 _ (aB (d:=0) h);unfold pX at this;simp only[bk,decide_eq_true_eq,kz,not_and,DP]at this;generalize p.aD.getD (x*(m.cls.getD p.snd.toNat default).length+y).toNat 0=n at *;by_cases h0:n=0
  ·subst h0;unfold bZ;decide
  ·exact mD (this h0)
 ·rw[aG,ei h];unfold bZ;decide
def TY{R:Int}{c:Int×Int}:∀ {l:List (Int×Int)} {q:Option (Int×Int)},eH R q l=true->jI R c.1=true->jH c.2=true->(∀ x∈l,x.1<c.1)->(∀ y,q=some y->y.1<c.1)->eH R q (l++[c])=true
 |[],q,_,h1,h2,_,h3=>by
  rw[dZ,eH.eq_def];cases q with
  |none=>simp[h1,h2,eH]
  |some y=>simp[h1,h2,eH,h3 y rfl]
 |x::r,q,h,h1,h2,h3,h4=>by
  rw[eH.eq_def]at h;simp only[bk]at h;rw[dP,eH.eq_def];simp only[bk];exact⟨h.1,TY h.2 h1 h2 (λy hy=>h3 y (by simp[hy])) (λy hy=>by simp only[dD.injEq]at hy;subst hy;exact h3 _ G9)⟩
def TZ{m:ah}{c:Pr}:∀ {l:List Pr} {q:Option Pr},fH m q l=true->gL m c=true->(∀ x∈l,o8 x c<0)->(∀ y,q=some y->o8 y c<0)->fH m q (l++[c])=true
 |[],q,_,h1,_,h3=>by
  rw[dZ,fH.eq_def];cases q with
  |none=>simp[h1,fH]
  |some y=>simp[h1,fH,h3 y rfl]
 |x::r,q,h,h1,h3,h4=>by
  rw[fH.eq_def]at h;simp only[bk]at h;rw[dP,fH.eq_def];simp only[bk];exact⟨h.1,TZ h.2 h1 (λy hy=>h3 y (by simp[hy])) (λy hy=>by simp only[dD.injEq]at hy;subst hy;exact h3 _ G9)⟩
def T1{m:ah}{c:Ld}:∀ {l:List Ld} {q:Option Ld},eE m q l=true->eU m c.cls c.opt=true->(1<=c.wt/\c.wt<=1000)->(∀ x∈l,vg x c<0)->(∀ y,q=some y->vg y c<0)->eE m q (l++[c])=true
 |[],q,_,h1,h2,_,h3=>by
  rw[dZ,eE.eq_def];cases q with
  |none=>simp[h1,h2,eE]
  |some y=>simp[h1,h2,eE,h3 y rfl]
 |x::r,q,h,h1,h2,h3,h4=>by
  rw[eE.eq_def]at h;simp only[bk]at h;rw[dP,eE.eq_def];simp only[bk];exact⟨h.1,T1 h.2 h1 h2 (λy hy=>h3 y (by simp[hy])) (λy hy=>by simp only[dD.injEq]at hy;subst hy;exact h3 _ G9)⟩
def T2{cls:List (List bV)}{R:Int}{a b:List Pr}{c d:List Ct}:∀ (l:List Pr) (q:Option Pr),fH ⟨cls,a,c,R⟩ q l=fH ⟨cls,b,d,R⟩ q l
 |[],_=>rfl
 |x::r,q=>by
  have:=T2 (cls:=cls) (R:=R) (a:=a) (b:=b) (c:=c) (d:=d) r (some x);cases q<;>simp only[fH,this]<;>rfl
def T3{cls:List (List bV)}{R:Int}{a b:List Pr}{c d:List Ct}:∀ (l:List Ld) (q:Option Ld),eE ⟨cls,a,c,R⟩ q l=eE ⟨cls,b,d,R⟩ q l
 |[],_=>rfl
 |x::r,q=>by
  have:=T3 (cls:=cls) (R:=R) (a:=a) (b:=b) (c:=c) (d:=d) r (some x);cases q<;>simp only[eE,this]<;>rfl
def afK{cls:List (List bV)}{R:Int}{a b:List Pr}{c d:List Ct}(x:Ct):iW ⟨cls,a,c,R⟩ x=iW ⟨cls,b,d,R⟩ x:=by
 unfold iW;rw[T3 (a:=a) (b:=b) (c:=c) (d:=d)]
def Ml(L:List Int)(k:Nat):0<=qE L k/\qE L k<=1099511627776/\(0<qE L k->jH (qE L k)=true):=by
 have h6:=kd (L:=L) (k:=k) (n:=6) G3;have h20:=kd (L:=L) (k:=bR L k) (n:=20) G3;unfold qE;split
 ·exact⟨G3,G3,G3⟩
 ·split
  ·exact⟨G3,G3,λ_=>Kq⟩
  ·refine⟨G3,G3,λ_=>?_⟩;rw[jH,decide_eq_true_eq];omega
def Mm{L:List Int}{k:Nat}(h:k<=L.length):wx L k<=L.length:=by
 unfold wx;split
 ·exact dN h
 ·exact dN (dN h)
structure MM(m:ah)(qH options:Nat):Prop where
 vm:VM m
 qI:m.cls.length<=qH
 some:∀ l∈m.cls,1<=l.length/\l.length<=options
 iI:1<=m.rules/\m.rules<=4
 ax:m.ax.length<=2
 wk:∀ l∈m.cls,∀ o∈l,o.wk<=3
def VM.mb{m:ah}(h:VM m):MB m:=by
 refine⟨by have:=h.cls;omega,λl hl=>by have:=h.opt l hl;omega,λl hl o ho=>?_,by have:=h.ae;omega,λp hp=>?_,by have:=h.ax;omega,λc hc=>?_⟩
 ·have:=ET h.iI.1 (h.oB l hl o ho);have:=h.iI;omega
 ·obtain⟨_,h1,h2,h3,h4⟩:=m4 (jy h.pr p hp);have a:=h.opt _ (aB (l:=m.cls) (i:=p.fst.toNat) (d:=default) G3);have b:=h.opt _ (aB (l:=m.cls) (i:=p.snd.toNat) (d:=default) G3);have:((m.cls.getD p.fst.toNat default).length:Int)*(m.cls.getD p.snd.toNat default).length<=24*24:=rp G3 G3 G3 G3;omega
 ·have:=AQ h (nG (h.ct c hc)).2.2.2;omega
def dw(L:List Int)(k:Nat)(cls:List (List bV))(ae:List Pr)(ax:List Ct)(R:Int):List Ob :=
 [.var [.tree 1 (ints L),aaa k],.var [.lit (.slice none 0 0),.lit (.slice none 0 0),.lit (.slice none 0 0),aaa 0],
  .var [.ref 3 1 0 cls.length,.ref 4 4 0 ae.length,.ref 5 4 0 ax.length,aaa R],.arr 1 (rowsOf a9 cls),.arr 4 (rowsOf aQ ae),.arr 4 (rowsOf aV ax)]
def T4(R:Int)(l:List bV):Prop:=∀ o∈l,eH R none o.ch=true/\o.wk<=3
def EX(p:Pr)(u i k:Nat):Prop:=p.bF<u\/(p.bF=u/\(p.fst<i\/(p.fst=i/\p.snd<k)))
structure xW(cls:List (List bV))(R:Int)(ae:List Pr)(u i k:Nat):Prop where
 ok:fH ⟨cls,[],[],R⟩ none ae=true
 lt:∀ p∈ae,EX p u i k
 len:ae.length<=576*u+24*i+k
def xW.mono{cls:List (List bV)}{R:Int}{ae:List Pr}{u i k u' i' k':Nat}(h:xW cls R ae u i k)(hl:u<u'\/(u=u'/\(i<i'\/(i=i'/\k<=k'))))(hs:576*u+24*i+k<=576*u'+24*i'+k'):xW cls R ae u' i' k' :=
 ⟨h.ok,λp hp=>by have:=h.lt p hp;unfold EX at *;omega,by have:=h.len;omega⟩
def xW.app{cls:List (List bV)}{R:Int}{ae:List Pr}{u i k:Nat}(h:xW cls R ae u i k){aD:List Int}(hp:gL ⟨cls,[],[],R⟩ ⟨i,k,u,aD⟩=true):xW cls R (ae++[⟨i,k,u,aD⟩]) u i (k+1):=by
 refine⟨TZ h.ok hp (λx hx=>?_) G9,λp hp=>?_,by have:=h.len;simp;omega⟩
 ·have:=h.lt x hx;rw[Mi];unfold EX at this;dsimp only;omega
 ·rcases cz.1 hp with hp|hp
  ·have:=h.lt p hp;unfold EX at *;omega
  ·simp only[ec]at hp;subst hp;unfold EX;dsimp only;omega
def afM{cls:List (List bV)}{R:Int}{aD:List Int}{i k u:Nat}(hu:(u:Int)<R)(hik:i<k)(hk:k<cls.length)(ht:aD.length=(cls.getD i default).length*(cls.getD k default).length)(hc:∀ x∈aD,0<=x/\(0<x->jH x=true)):
  gL ⟨cls,[],[],R⟩ ⟨i,k,u,aD⟩=true:=by
 unfold gL jI;simp only[bk,decide_eq_true_eq,kz,Int.toNat_natCast,yO];refine⟨⟨⟨G3,hu⟩,G3,G3,G3,?_⟩,λx hx=>?_⟩
 ·rw[ht];simp
 ·unfold pX;have:=hc x hx;by_cases h0:x=0
  ·subst h0;decide
  ·rw[this.2 G3];simp
structure zg(cls:List (List bV))(R:Int)(l:List Ld)(i k:Nat):Prop where
 ok:eE ⟨cls,[],[],R⟩ none l=true
 lt:∀ x∈l,x.cls<i\/(x.cls=i/\x.opt<k)
 len:l.length<=24*i+k
def zg.mono{cls:List (List bV)}{R:Int}{l:List Ld}{i k i' k':Nat}(h:zg cls R l i k)(hl:i<i'\/(i=i'/\k<=k'))(hs:24*i+k<=24*i'+k'):zg cls R l i' k' :=
 ⟨h.ok,λp hp=>by have:=h.lt p hp;omega,by have:=h.len;omega⟩
def zg.app{cls:List (List bV)}{R:Int}{l:List Ld}{i k:Nat}(h:zg cls R l i k){w:Int}(hi:i<cls.length)(hk:k<(cls.getD i default).length)(hw:1<=w/\w<=1000):zg cls R (l++[⟨i,k,w⟩]) i (k+1):=by
 refine⟨T1 h.ok (iv.2 ⟨Kw,Kw,Kw,by simp;exact hk⟩) hw (λx hx=>?_) G9,λp hp=>?_,by have:=h.len;simp;omega⟩
 ·have:=h.lt x hx;rw[Is];dsimp only;omega
 ·rcases cz.1 hp with hp|hp
  ·have:=h.lt p hp;omega
  ·simp only[ec]at hp;subst hp;dsimp only;omega
def tV(L:List Int)(b:Bool):List (List bV)->Nat->List Int->List Int×Nat
 |[],k,acc=>(acc,k)
 |l::r,k,acc=>tV L b r (bR L k) (acc++[if b=true then da L k l.length else da L k (l.length+1)-1])
def T5:(default:bV).ch=[]:=rfl
def T6{m:ah}(hm:VM m):∀ (plan:List Int) (i:Nat) (out:List Int),je m.rules out->je m.rules (rP m i plan out)
 |[],_,_,h=>h
 |o::r,i,out,h=>by
  rw[rP];refine T6 hm r (i+1) _ ?_;split
  ·exact h
  ·refine TV h λc hc=>?_;rcases fN i m.cls.length with hi|hi
   ·have hl:=aB (d:=(default:List bV)) hi;generalize m.cls.getD i default=l at *;rcases fN o.toNat l.length with ho|ho
    ·exact(AP (hm.oB l hl _ (aB ho)) c hc).2
    ·rw[show l.getD o.toNat default=default by rw[aG,ei ho];rfl]at hc;exact absurd hc (by rw[T5];simp)
   ·rw[show m.cls.getD i default=[] by rw[aG,ei hi];rfl]at hc;exact absurd hc (by rw[List.getD_nil,T5];simp)
def T7{m:ah}{plan:List Int}:∀ (l:List Pr) (out:List Int),(∀ p∈l,gL m p=true)->je m.rules out->je m.rules (rQ m plan l out)
 |[],_,_,h=>h
 |p::r,out,hp,h=>by
  rw[rQ];refine T7 r _ (λq hq=>hp q (by simp[hq])) ?_;split
  ·exact h.add (EW (hp p G9) _ _)
  ·exact h
def T8{m:ah}{plan:List Int}:∀ (l:List Ct) (out:List Int),(∀ c∈l,iW m c=true)->je m.rules out->je m.rules (rR plan l out)
 |[],_,_,h=>h
 |c::r,out,hp,h=>by
  rw[rR];exact T8 r _ (λq hq=>hp q (by simp[hq])) (h.add (EV (mD (nG (hp c G9)).2.2.1)))
def T9{m:ah}(hm:VM m)(plan:List Int):je m.rules (mZ m plan) :=
 T8 _ _ hm.ct (T7 _ _ (jy hm.pr) (T6 hm _ _ _ (je.rep hm.iI.1)))
def lz:List Int->Int
 |[]=>0
 |x::r=>x+lz r
def Mn:∀ {l:List Int},(∀ x∈l,bZ x)->0<=lz l/\lz l<=1099511627776*l.length
 |[],_=>by simp[lz]
 |x::r,h=>by
  have:=Mn λy hy=>h y (List.mem_cons_of_mem x hy);have:=h x G9;unfold bZ at this;simp only[lz,eu];omega
def T':∀ {l:List Int} {n:Int},(∀ x∈l,bZ x)->bZ n->mC l n=min (n+lz l) 1099511627776
 |[],n,_,hn=>by unfold bZ at hn;simp only[mC,lz];omega
 |x::r,n,h,hn=>by
  have hx:=h x G9;have hr:∀ y∈r,bZ y:=λy hy=>h y (by simp[hy]);rw[mC,T' hr (AO hn hx)];have:=Mn hr;unfold bZ at hx hn;simp only[fl,lz];omega
def Mo:∀ {l:List Int},(∀ x∈l,bZ x)->∀ x∈l,x<=lz l
 |[],_,x,hx=>by simp at hx
 |y::r,h,x,hx=>by
  have hr:∀ z∈r,bZ z:=λz hz=>h z (by simp[hz]);have:=(Mn hr).1;have hy:=h y G9;unfold bZ at hy;rcases cu.1 hx with rfl|hx
  ·simp only[lz];omega
  ·have:=Mo hr x hx;simp only[lz];omega
def LE(a b:List Int):Prop:=a.length=b.length/\∀ i,a.getD i 0<=b.getD i 0
def LE.refl(a:List Int):LE a a:=⟨rfl,λ_=>Int.le_refl _⟩
def zh(l:List Int)(n i:Nat)(x:Int):(l.set n x).getD i 0=if n=i/\i<l.length then x else l.getD i 0:=by
 rw[aG,List.getElem?_set,aG];by_cases h:n=i
 ·subst h;by_cases h2:n<l.length
  ·rw[if_pos rfl,if_pos h2,if_pos ⟨rfl,h2⟩];rfl
  ·rw[if_pos rfl,if_neg h2,if_neg (λh=>h2 h.2),ei G3]
 ·rw[if_neg h,if_neg (λh'=>h h'.1)]
def LE.add{a b:List Int}(h:LE a b){r c d:Int}(hcd:c<=d):LE (fI a r c) (fI b r d):=by
 refine⟨by simp only[fI,bw];exact h.1,λi=>?_⟩;rw[fI,fI,zh,zh,h.1];have:=h.2 i;have:=h.2 r.toNat;split
 ·unfold fl;omega
 ·exact h.2 i
def LE.up{R:Int}{a b:List Int}(h:LE a b)(hb:je R b){r c:Int}(hc:0<=c):LE a (fI b r c):=by
 refine⟨by simp only[fI,bw];exact h.1,λi=>?_⟩;rw[fI,zh];have h1:=h.2 i;have h2:=hb.get i;unfold bZ at h2;split
 ·rename_i hh;rw[hh.1];unfold fl;omega
 ·exact h1
def Up(p q:List Int):Prop:=p.length=q.length/\∀ j,p.getD j 0=q.getD j 0\/p.getD j 0<0
def Up.set{p:List Int}{c:Nat}(o:Int)(h:p.getD c 0 = -1):Up p (p.set c o):=by
 refine⟨G9,λj=>?_⟩;rw[zh];split
 ·rename_i hh;rw[<- hh.1,h];omega
 ·exact .inl rfl
def PM.set{m:ah}{p:List Int}(h:PM m p){c:Nat}{o:Int}(ho:o = -1\/eU m (c:Nat) o=true):PM m (p.set c o):=by
 refine⟨by rw[bw];exact h.len,λj hj=>?_⟩;rw[bw]at hj;rw[zh];split
 ·rename_i hh;rw[<- hh.1];exact ho
 ·exact h.get j hj
def hU(aH:List Bool)(r:Int):Bool:=aH.getD r.toNat false
def mF(aH:List Bool)(o:bV):bV:=⟨o.wk,o.day,o.st,o.len,o.room,o.ch.filter λc=>hU aH c.1⟩
def m5(m:ah)(aH:List Bool):ah :=
 ⟨m.cls.map λl=>l.map (mF aH),m.ae.filter λp=>hU aH p.bF,m.ax.filter λc=>hU aH c.bF,m.rules⟩
def It:ah:=⟨[],[],[],0⟩
def tW(m:ah)(aH:List Bool):ah×Int :=
 if ek m≠0 then(It,ek m) else if(aH.length:Int)≠m.rules then(It,3) else(m5 m aH,0)
def Cut(aH:List Bool)(a b:List Int):Prop:=b.length=a.length/\∀ i:Nat,b.getD i 0=if hU aH i=true then a.getD i 0 else 0
def Cut.add{aH:List Bool}{a b:List Int}(h:Cut aH a b){r c:Int}(hr:0<=r):Cut aH (fI a r c) (if hU aH r=true then fI b r c else b):=by
 have cB:((r.toNat:Nat):Int)=r:=Int.toNat_of_nonneg hr;refine⟨by split<;>simp only[fI,bw]<;>exact h.1,λi=>?_⟩;have hi:=h.2 i;have uL:=h.2 r.toNat;rw[cB]at uL;by_cases hk:hU aH r=true
 ·rw[if_pos hk];rw[if_pos hk]at uL;rw[fI,fI,zh,zh,uL,h.1];by_cases ow:r.toNat=i/\i<a.length
  ·rw[if_pos ow,if_pos ow,if_pos];rw[<- ow.1,cB];exact hk
  ·rw[if_neg ow,if_neg ow];exact hi
 ·rw[if_neg hk,fI,zh];by_cases ow:r.toNat=i/\i<a.length
  ·rw[if_pos ow];rw[<- ow.1,cB,if_neg hk]at hi;rw[<- ow.1,cB,if_neg hk];exact hi
  ·rw[if_neg ow];exact hi
def afN{α β:Type}(f:α->β)(l:List α)(i:Nat)(a:α)(b:β)(h:f a=b):(l.map f).getD i b=f (l.getD i a):=by
 rw[aG,aG,List.getElem?_map];cases l[i]? with
 |none=>exact h.symm
 |some x=>rfl
def afO(m:ah)(aH:List Bool)(i:Nat):(m5 m aH).cls.getD i default=(m.cls.getD i default).map (mF aH):=afN _ _ _ _ _ rfl
def afP{R:Int}{q q':Option (Int×Int)}(h:∀ y,q'=some y->∃ x,q=some x/\y.1<=x.1):∀ {l:List (Int×Int)},eH R q l=true->eH R q' l=true
 |[],_=>by cases q'<;>rfl
 |c::r,hl=>by
  rw[eH.eq_def]at hl ⊢;simp only[bk]at hl ⊢;refine⟨⟨hl.1.1,?_⟩,hl.2⟩;cases q' with
  |none=>rfl
  |some y =>
   obtain⟨x,rfl,hx⟩:=h y rfl;have:=hl.1.2;simp only[decide_eq_true_eq]at this ⊢;omega
def Iu{R:Int}(p:Int×Int->Bool):∀ {l:List (Int×Int)} {q:Option (Int×Int)},eH R q l=true->eH R q (l.filter p)=true
 |[],q,h=>h
 |c::r,q,h=>by
  have h0:=h;rw[eH.eq_def]at h;simp only[bk]at h;rw[z9];split
  ·rw[eH.eq_def];simp only[bk];exact⟨h.1,Iu p h.2⟩
  ·refine afP (q:=some c) (λy hy=>⟨c,rfl,?_⟩) (Iu p h.2);subst hy;have:=h.1.2;simp only[decide_eq_true_eq]at this;omega
def afQ{a b c:Pr}(h:o8 a b<0)(k:o8 b c<0):o8 a c<0:=by
 rw[Mi]at *;omega
def afR{m:ah}{q q':Option Pr}(h:∀ y,q'=some y->∃ x,q=some x/\(∀ c,o8 x c<0->o8 y c<0)):∀ {l:List Pr},fH m q l=true->fH m q' l=true
 |[],_=>by cases q'<;>rfl
 |c::r,hl=>by
  rw[fH.eq_def]at hl ⊢;simp only[bk]at hl ⊢;refine⟨⟨hl.1.1,?_⟩,hl.2⟩;cases q' with
  |none=>rfl
  |some y =>
   obtain⟨x,rfl,hx⟩:=h y rfl;have:=hl.1.2;simp only[decide_eq_true_eq]at this ⊢;exact hx c this
def Iv{m:ah}(p:Pr->Bool):∀ {l:List Pr} {q:Option Pr},fH m q l=true->fH m q (l.filter p)=true
 |[],q,h=>h
 |c::r,q,h=>by
  rw[fH.eq_def]at h;simp only[bk]at h;rw[z9];split
  ·rw[fH.eq_def];simp only[bk];exact⟨h.1,Iv p h.2⟩
  ·refine afR (q:=some c) (λy hy=>⟨c,rfl,λd hd=>?_⟩) (Iv p h.2);subst hy;have:=h.1.2;simp only[decide_eq_true_eq]at this;exact afQ this hd
def Mp(m:ah)(aH:List Bool)(i:Nat):((m5 m aH).cls.getD i default).length=(m.cls.getD i default).length:=by rw[afO,List.length_map]
def EY(m:ah)(aH:List Bool):(m5 m aH).cls.length=m.cls.length:=by unfold m5;simp
def Mq(m:ah)(aH:List Bool)(c o:Int):eU (m5 m aH) c o=eU m c o:=by
 unfold eU;rw[EY,Mp]
def afS(m:ah)(aH:List Bool)(p:Pr):gL (m5 m aH) p=gL m p:=by
 unfold gL;rw[EY,Mp,Mp];rfl
def Ua(m:ah)(aH:List Bool):∀ (l:List Pr) (q:Option Pr),fH (m5 m aH) q l=fH m q l
 |[],_=>rfl
 |x::r,q=>by rw[fH.eq_def,fH.eq_def];simp only[afS,Ua m aH r]
def Ub(m:ah)(aH:List Bool):∀ (l:List Ld) (q:Option Ld),eE (m5 m aH) q l=eE m q l
 |[],_=>rfl
 |x::r,q=>by rw[eE.eq_def,eE.eq_def];simp only[Mq,Ub m aH r]
def afT(m:ah)(aH:List Bool)(c:Ct):iW (m5 m aH) c=iW m c:=by
 unfold iW;rw[Ub];rfl
def EZ{m:ah}(hm:VM m)(aH:List Bool):VM (m5 m aH):=by
 refine⟨by rw[EY];exact hm.cls,λl hl=>?_,?_,?_,hm.iI,λl hl o ho=>?_,?_,λc hc=>?_⟩
 ·simp only[m5,cC]at hl;obtain⟨l',h',rfl⟩:=hl;simpa using hm.opt l' h'
 ·have:=DQ (λp:Pr=>hU aH p.bF) m.ae;have:=hm.ae;simp only[m5];omega
 ·have:=DQ (λp:Ct=>hU aH p.bF) m.ax;have:=hm.ax;simp only[m5];omega
 ·simp only[m5,cC]at hl;obtain⟨l',h',rfl⟩:=hl;simp only[cC]at ho;obtain⟨o',cy,rfl⟩:=ho;exact Iu _ (hm.oB l' h' o' cy)
 ·rw[Ua];exact Iv _ hm.pr
 ·rw[afT];exact hm.ct c (List.mem_filter.1 hc).1
abbrev SC:=Int×Int
def E0(s:SC)(cost times:Int):SC:=if cost=1099511627776 then(s.1+times,s.2) else(s.1,s.2+cost*times)
def pe(m:ah)(plan:List Int):Int:=if ek m≠0 then ek m else if(!qG m plan||plan.contains (-1))=true then 17 else 0
structure FP(m:ah)(plan:List Int):Prop where
 len:plan.length=m.cls.length
 get:∀ j,j<plan.length->eU m (j:Nat) (plan.getD j 0)=true
def Mr{m:ah}{plan:List Int}(h:pe m plan=0):VM m/\FP m plan:=by
 unfold pe at h;split at h
 ·omega
 split at h
 ·omega
 rename_i h1 h2;have hv:=iu.1 (Decidable.not_not.1 h1);simp only[kB,kz,not_or,DP,Bool.not_eq_true]at h2;have hp:=Mk h2.1;refine⟨hv,hp.len,λj hj=>(hp.get j hj).resolve_left λhe=>?_⟩;have hm:=aB (d:=0) hj;rw[he]at hm;have:=List.contains_iff_mem.2 hm;rw[this]at h2;exact absurd h2.2 Kq
def FP.pm{m:ah}{plan:List Int}(h:FP m plan):PM m plan:=⟨h.len,λj hj=>.inr (h.get j hj)⟩
def SB(s:SC)(n:Nat):Prop:=0<=s.1/\s.1<=1048576*n/\0<=s.2/\s.2<=1099511627776*n
def SB.zero:SB (0,0) 0:=by unfold SB;decide
def SB.mono{s:SC}{n k:Nat}(h:SB s n)(hk:n<=k):SB s k:=by unfold SB at *;omega
def afU(c:Int):Prop:=0<=c/\c<=1048576\/c=1099511627776
def afV{c t:Int}(hc:0<=c/\c<=1048576)(ht:0<=t/\t<=1048576):0<=c*t/\c*t<=1099511627776 :=
 ⟨xz hc.1 ht.1,Int.le_trans (rp hc.2 ht.2 ht.1 G3) Kq⟩
def SB.add{s:SC}{n:Nat}(h:SB s n){c t:Int}(hc:afU c)(ht:0<=t/\t<=1048576):SB (E0 s c t) (n+1):=by
 unfold SB E0 at *;split
 ·dsimp only;omega
 ·have:=afV (hc.resolve_right (by assumption)) ht;dsimp only;omega
def vh:List Ld->Int->Int->Int
 |[],_,_=>0
 |x::r,i,o=>if x.cls=i/\x.opt=o then x.wt else vh r i o
def tX(l:List Ld):Nat->List Int->Int
 |_,[]=>0
 |i,o::r=>vh l i o+tX l (i+1) r
def Uc:∀ (plan:List Int) (i:Nat),tX [] i plan=0
 |[],_=>rfl
 |o::r,i=>by rw[tX,vh,Uc r];rfl
def Ud(x:Ld)(l:List Ld):∀ (plan:List Int) (i:Nat),tX (x::l) i plan=tX l i plan+if(i:Int)<=x.cls/\x.cls<i+plan.length/\plan.getD (x.cls-i).toNat 0=x.opt then x.wt-vh l x.cls x.opt else 0
 |[],i=>by rw[tX,tX,if_neg PX];rfl
 |o::r,i=>by
  rw[tX,tX,Ud x l r (i+1),vh];by_cases h:x.cls=i
  ·rw[if_neg (c:=((i+1:Nat):Int)<=x.cls/\_) G3];rw[show(x.cls-i).toNat=0 by omega,jh,eu];by_cases ho:x.opt=o
   ·rw[if_pos ⟨h,ho⟩,if_pos ⟨G3,G3,ho.symm⟩,h,ho];omega
   ·rw[if_neg (λh'=>ho h'.2),if_neg (λh'=>ho h'.2.2.symm)];omega
  ·rw[if_neg (c:=x.cls=i/\x.opt=o) (λh'=>h h'.1)];have e:((i+1:Nat):Int)<=x.cls/\x.cls<(i+1:Nat)+r.length/\r.getD (x.cls-(i+1:Nat)).toNat 0=x.opt↔(i:Int)<=x.cls/\x.cls<i+(o::r).length/\(o::r).getD (x.cls-i).toNat 0=x.opt:=by
    rw[eu];by_cases bx:(i:Int)<x.cls
    ·rw[show(x.cls-i).toNat=(x.cls-(i+1:Nat)).toNat+1 by omega,gN];constructor
     ·rintro⟨a,b,c⟩;exact⟨G3,G3,c⟩
     ·rintro⟨a,b,c⟩;exact⟨G3,G3,c⟩
    ·constructor
     ·rintro⟨a,b,c⟩;omega
     ·rintro⟨a,b,c⟩;omega
   simp only[e];omega
def Ue:∀ (l:List Ld) (i o:Int),(∀ y∈l,¬ (y.cls=i/\y.opt=o))->vh l i o=0
 |[],_,_,_=>rfl
 |x::r,i,o,h=>by rw[vh,if_neg (h x G9),Ue r i o λy hy=>h y (by simp[hy])]
def zi{m:ah}:∀ {l:List Ld} {q:Ld},eE m (some q) l=true->∀ y∈l,q.cls<y.cls\/(q.cls=y.cls/\q.opt<y.opt)
 |[],_,_,y,hy=>by simp at hy
 |x::r,q,h,y,hy=>by
  rw[eE]at h;simp only[bk,decide_eq_true_eq]at h;have h1:=Is.1 h.1.2;rcases cu.1 hy with rfl|hy
  ·exact h1
  ·have:=zi h.2 y hy;omega
def Uf{m:ah}{plan:List Int}(hp:plan.length=m.cls.length):∀ {l:List Ld} {q:Option Ld} (n:Int),eE m q l=true->ly plan l n=n+tX l 0 plan
 |[],_,n,_=>by rw[ly,Uc];omega
 |x::r,q,n,h=>by
  have hr:eE m (some x) r=true:=by
   rw[eE.eq_def]at h;simp only[bk]at h;exact h.2
  have hx:=(rS h x G9).1;obtain⟨a,b,c,d⟩:=iv.1 hx;rw[ly,Uf hp _ hr,Ud,Ue r x.cls x.opt (λy hy he=>by have:=zi hr y hy;omega)];rw[show(x.cls-((0:Nat):Int)).toNat=x.cls.toNat by simp];by_cases e:plan.getD x.cls.toNat 0=x.opt
  ·rw[if_pos e,if_pos ⟨G3,G3,e⟩];omega
  ·rw[if_neg e,if_neg (λh'=>e h'.2.2)];omega
def AR(m:ah):Nat->List Int->Bool
 |_,[]=>true
 |i,o::r=>eU m i o&&AR m (i+1) r
def Ug{m:ah}:∀ (plan:List Int) (i:Nat),AR m i plan=(qF m i plan&&!plan.contains (-1))
 |[],_=>rfl
 |o::r,i=>by
  rw[AR,qF,Ug r (i+1),List.contains_cons];by_cases h:o = -1
  ·subst h;have:eU m i (-1)=false:=by
    cases hb:eU m i (-1) with
    |false=>rfl
    |true=>have:=iv.1 hb;omega
   simp[this]
  ·have h2:((-1:Int)==o)=false:=by simpa using λe=>h e.symm
   rw[h2,decide_eq_false h,lF,lF];cases eU m i o<;>simp
def afW(m:ah)(plan:List Int):pe m plan=if ek m≠0 then ek m else if plan.length≠m.cls.length then 17 else if AR m 0 plan=false then 17 else 0:=by
 unfold pe qG;split
 ·rfl
 ·by_cases h:plan.length≠m.cls.length
  ·simp[h]
  ·rw[if_neg h,if_neg h,Ug];cases qF m 0 plan<;>cases plan.contains (-1)<;>rfl
end T

