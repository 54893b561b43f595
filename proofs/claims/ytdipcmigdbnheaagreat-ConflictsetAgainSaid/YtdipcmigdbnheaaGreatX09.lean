import Derived.Test.YtdipcmigdbnheaaGreatX06
set_option linter.all false
set_option maxHeartbeats 0
set_option maxRecDepth 20000
open List renaming getD_eq_getElem?_getD→aA,replicate→b6,getElem?_eq_none→eE,any_eq_true→pE,mem_cons→b8,length_cons→dz,length_nil→mq,getD_cons_zero→fQ,getD_cons_succ→ep,any_eq_false→ER,nil_append→da,cons_append→cW,mem_append→cj,mem_singleton→ew,mem_map→bZ,map_cons→dJ,map_map→uq,map_congr_left→kG,mem_iff_getElem→rJ
open Nat renaming lt_or_ge→eh,zero_add→eW
open Bool renaming and_eq_true→ba,not_eq_true'→jW
open Int renaming mul_nonneg→rR,mul_le_mul→qy,toNat_natCast→gA,zero_add→vN,toNat_of_nonneg→pF
open Option renaming some→cT
open Go Go.Am
namespace T
def Rc:=abE @bW @hU @uL @LC @LD @zX @pU
def fx(x:Int):Prop:=-9223372036854775808<=x/\x<=9223372036854775807
def u7(n m:Int):Int:=if m<1 then 0 else n%m
def ZZ(n m:Int)(hm:0<m):0<=u7 n m/\u7 n m<m:=by
 unfold u7;rw[if_neg I6];exact⟨Int.emod_nonneg _ I6,Int.emod_lt_of_pos _ I6⟩
def GD(n m:Int)(hm:0<m):(n.tmod m<0->n%m=n.tmod m+m)/\(0<=n.tmod m->n%m=n.tmod m)/\-m<n.tmod m/\n.tmod m<m:=by
 have h1:=Int.emod_nonneg n (show m≠0 by omega);have h2:=Int.emod_lt_of_pos n hm;rcases Int.lt_or_le n 0 with hn|hn
 ·have h3:n.tmod m = -((-n)%m):=by
   have:=Int.neg_tmod (a:=-n) (b:=m);rw[Int.neg_neg]at this;rw[this,Int.tmod_eq_emod_of_nonneg I6]
  have h4:=Int.emod_nonneg (-n) (show m≠0 by omega);have h5:=Int.emod_lt_of_pos (-n) hm;have h6:=Int.mul_ediv_add_emod n m;have h7:=Int.mul_ediv_add_emod (-n) m;have key:(n%m=0/\(-n)%m=0)\/n%m=m-(-n)%m:=by
   by_cases hz:(-n)%m=0
   ·left;have hd:m ∣ -n:=Int.dvd_of_emod_eq_zero hz;have qK:m ∣ n:=(Int.dvd_neg).1 hd;exact⟨Int.emod_eq_zero_of_dvd qK,hz⟩
   ·right;have:n=m*(-((-n)/m)-1)+(m-(-n)%m):=by
     have : -n=m*((-n)/m)+(-n)%m:=h7.symm;rw[Int.mul_sub,Int.mul_neg];omega
    rw[this,Int.mul_add_emod_self_left];rw[<- this];exact Int.emod_eq_of_lt I6 I6
  rw[h3];refine⟨?_,?_,?_,?_⟩<;>omega
 ·rw[Int.tmod_eq_emod_of_nonneg hn];refine⟨?_,?_,?_,?_⟩<;>omega
def ek(L:List Int)(yr:Nat)(n:Int):Int:=if yr >= L.length then 0 else u7 (L.getD yr 0) n
def cO(L:List Int)(yr:Nat):Nat:=if yr >= L.length then yr else yr+1
def fY{L:List Int}{k:Nat}(h:k<=L.length):cO L k<=L.length:=by unfold cO;split<;>omega
def lQ{L:List Int}{k:Nat}{n:Int}(h:0<n):0<=ek L k n/\ek L k n<n:=by
 unfold ek;split
 ·omega
 ·exact ZZ _ _ h
def wO(L:List Int)(k:Nat)(n:Int):Bool:=decide (ek L k n=n-1)
def aC{α:Type}{l:List α}{i:Nat}{d:α}(h:i<l.length):l.getD i d∈l:=by
 rw[aA,List.getElem?_eq_getElem h];exact List.getElem_mem h
def QI{σ:St}{kp:Nat->Prop}{ρ:Nat->Nat}{snap:Bool}{a b c d e f:AV}(h:aE σ kp ρ snap a d)(k:aE σ kp ρ snap b e)(l:aE σ kp ρ snap c f):aE σ kp ρ snap (.bO [a,b,c]) (.bO [d,e,f]) :=
 .bO _ _ rfl (dS.spec (R:=aE σ kp ρ snap) (cs:=[a,b,c]) (ds:=[d,e,f]) ⟨h,k,l,trivial⟩).2
def dx(a b:Int):Int:=min (a+b) 1099511627776
def iF(n:Int):Bool:=decide ((1<=n/\n<=1048576)\/n=1099511627776)
def ij(R n:Int):Bool:=decide (0<=n/\n<R)
def gW(m:aj)(c o:Int):Bool:=decide (0<=c/\c<m.cls.length/\0<=o/\o<(m.cls.getD c.toNat default).length)
def mQ(a b:Int):Int:=if a<b then -1 else if b<a then 1 else 0
def re:List Int->Int
 |[]=>0
 |x::r=>if x≠0 then x else re r
def jP(most bM sum:Int):Int:=if sum<=most then 0 else min ((sum-most)*bM) 1099511627776
def nL(L:List Int)(k:Nat):Int:=if ek L k 6<3 then 0 else if ek L k 6=3 then 1099511627776 else 1+ek L (cO L k) 20
def sF(L:List Int)(k:Nat):Nat:=if ek L k 6<=3 then cO L k else cO L (cO L k)
def kr{α:Type}[Inhabited α](l:List α)(k:Nat):Option α:=if k=0 then none else some (l.getD (k-1) default)
def db(R:Int):Option (Int×Int)->List (Int×Int)->Bool
 |_,[]=>true
 |q,c::r=>(ij R c.1&&iF c.2&&(match q with|none=>true|some q=>decide (q.1<c.1)))&&db R (some c) r
def mh(a b:Pr):Int:=re [mQ a.aV b.aV,mQ a.fst b.fst,mQ a.snd b.snd]
def mR(n:Int):Bool:=decide (n≠0)&&!iF n
def eS(m:aj)(p:Pr):Bool:=ij m.rules p.aV&&decide (0<=p.fst/\p.fst<p.snd/\p.snd<m.cls.length/\(p.ay.length:Int)=(m.cls.getD p.fst.toNat default).length*(m.cls.getD p.snd.toNat default).length)&&!p.ay.any mR
def dW(m:aj):Option Pr->List Pr->Bool
 |_,[]=>true
 |q,p::r=>(eS m p&&(match q with|none=>true|some q=>decide (mh q p<0)))&&dW m (some p) r
def rf(a b:Ld):Int:=re [mQ a.cls b.cls,mQ a.opt b.opt]
def dm(m:aj):Option Ld->List Ld->Bool
 |_,[]=>true
 |q,x::r=>(gW m x.cls x.opt&&decide (1<=x.wt/\x.wt<=1000)&&(match q with|none=>true|some q=>decide (rf q x<0)))&&dm m (some x) r
def fN(m:aj)(c:Ct):Bool:=ij m.rules c.aV&&decide (0<=c.most/\c.most<=1048576)&&iF c.bM&&dm m none c.aS
def qa(m:aj):Bool:=decide (24<m.cls.length\/m.cls.any (λl=>decide (24<l.length))=true\/4000<m.ae.length\/800<m.ar.length\/m.rules<0\/56<m.rules)
def eJ(m:aj):Int:=if qa m=true then 2 else if(m.cls.any λl=>l.any λo=>!db m.rules none o.ch)=true then 1 else if dW m none m.ae=false then 1 else if(m.ar.any λc=>!fN m c)=true then 1 else 0
def tH(m:aj):Nat->List Int->Bool
 |_,[]=>true
 |i,o::r=>(decide (o = -1)||gW m i o)&&tH m (i+1) r
def tI(m:aj)(plan:List Int):Bool:=if plan.length≠m.cls.length then false else tH m 0 plan
def sA{α:Type}[Inhabited α](l:List α)(k:Nat):kr l (k+1)=some (l.getD k default):=by simp[kr]
def QJ{R:Int}{l r:List (Int×Int)}{k:Nat}{c:Int×Int}:db R (kr l k) (c::r)=((ij R c.1&&iF c.2&&(decide (k=0)||decide ((l.getD (k-1) default).1<c.1)))&&db R (some c) r):=by
 by_cases h:k=0<;>simp[kr,h,db]
def QK{m:aj}{l r:List Pr}{k:Nat}{p:Pr}:dW m (kr l k) (p::r)=((eS m p&&(decide (k=0)||decide (mh (l.getD (k-1) default) p<0)))&&dW m (some p) r):=by
 by_cases h:k=0<;>simp[kr,h,dW]
def QL{m:aj}{l r:List Ld}{k:Nat}{x:Ld}:dm m (kr l k) (x::r)=((gW m x.cls x.opt&&decide (1<=x.wt/\x.wt<=1000)&&(decide (k=0)||decide (rf (l.getD (k-1) default) x<0)))&&dm m (some x) r):=by
 by_cases h:k=0<;>simp[kr,h,dm]
structure MB(m:aj):Prop where
 cls:m.cls.length<9223372036854775808
 opt:∀ l∈m.cls,l.length<9223372036854775808
 ch:∀ l∈m.cls,∀ o∈l,o.ch.length<9223372036854775808
 ae:m.ae.length<9223372036854775808
 ay:∀ p∈m.ae,p.ay.length<9223372036854775808
 ar:m.ar.length<9223372036854775808
 ku:∀ c∈m.ar,c.aS.length<9223372036854775808
def eU(out:List Int)(r c:Int):List Int:=out.set r.toNat (dx (out.getD r.toNat 0) c)
def qb:List (Int×Int)->List Int->List Int
 |[],out=>out
 |c::r,out=>qb r (eU out c.1 c.2)
def oC(m:aj):Nat->List Int->List Int->List Int
 |_,[],out=>out
 |i,o::r,out=>oC m (i+1) r (if o<0 then out else qb ((m.cls.getD i default).getD o.toNat default).ch out)
def mP(m:aj)(p:Pr)(x y:Int):Int:=p.ay.getD (x*(m.cls.getD p.snd.toNat default).length+y).toNat 0
def nM(m:aj)(plan:List Int):List Pr->List Int->List Int
 |[],out=>out
 |p::r,out=>nM m plan r (if 0<=plan.getD p.fst.toNat 0/\0<=plan.getD p.snd.toNat 0 then eU out p.aV (mP m p (plan.getD p.fst.toNat 0) (plan.getD p.snd.toNat 0)) else out)
def kv(plan:List Int):List Ld->Int->Int
 |[],n=>n
 |x::r,n=>kv plan r (if plan.getD x.cls.toNat 0=x.opt then n+x.wt else n)
def oD(plan:List Int):List Ct->List Int->List Int
 |[],out=>out
 |c::r,out=>oD plan r (eU out c.aV (jP c.most c.bM (kv plan c.aS 0)))
def jO:List Int->Int->Int
 |[],n=>n
 |x::r,n=>jO r (dx n x)
def iC(m:aj)(plan:List Int):List Int:=oD plan m.ar (nM m plan m.ae (oC m 0 plan (b6 m.rules.toNat 0)))
def Au(m:aj)(plan:List Int):Int×List Int:=(jO (iC m plan) 0,iC m plan)
def sx(m:aj)(plan:List Int):Int×List Int×Int :=
 if eJ m≠0 then(0,[],eJ m) else if tI m plan=false then(0,[],17) else((Au m plan).1,(Au m plan).2,0)
def bL(x:Int):Prop:=0<=x/\x<=1099511627776
def yu{a b:Int}(ha:bL a)(hb:bL b):bL (dx a b):=by unfold bL dx at *;omega
def lN{n:Int}(h:iF n=true):bL n:=by unfold iF at h;rw[decide_eq_true_eq]at h;unfold bL;omega
def iV(R:Int)(out:List Int):Prop:=(out.length:Int)=R/\∀ x∈out,bL x
def iV.get{R:Int}{out:List Int}(h:iV R out)(i:Nat):bL (out.getD i 0):=by
 rcases eh i out.length with hi|hi
 ·exact h.2 _ (aC hi)
 ·rw[aA,eE hi];unfold bL;decide
def iV.add{R:Int}{out:List Int}(h:iV R out){r c:Int}(hc:bL c):iV R (eU out r c) :=
 ⟨by rw[eU,List.length_set];exact h.1,λx hx=>by
  rcases List.mem_or_eq_of_mem_set hx with h'|h'
  ·exact h.2 x h'
  ·rw[h'];exact yu (h.get _) hc⟩
def iV.rep{R:Int}(hR:0<=R):iV R (b6 R.toNat 0):=⟨aaZ,λx hx=>by
 have:=List.eq_of_mem_replicate hx;subst this;unfold bL;decide⟩
structure VM(m:aj):Prop where
 cls:m.cls.length<=24
 opt:∀ l∈m.cls,l.length<=24
 ae:m.ae.length<=4000
 ar:m.ar.length<=800
 iS:0<=m.rules/\m.rules<=56
 kQ:∀ l∈m.cls,∀ o∈l,db m.rules none o.ch=true
 pr:dW m none m.ae=true
 ct:∀ c∈m.ar,fN m c=true
def fc{m:aj}:eJ m=0↔VM m:=by
 unfold eJ;constructor
 ·intro h;split at h
  ·omega
  split at h
  ·omega
  split at h
  ·omega
  split at h
  ·omega
  rename_i h1 h2 h3 h4;have wc:qa m=false:=by simpa using h1
  rw[qa,decide_eq_false_iff_not]at wc;have h5:∀ l∈m.cls,l.length<=24:=λl hl=>by
   rcases eh 24 l.length with h|h
   ·exact absurd (.inr (.inl (pE.2 ⟨l,hl,by simpa using h⟩))) wc
   ·exact h
  refine⟨I6,h5,I6,I6,I6,λl hl o ho=>?_,by simpa using h3,λc hc=>?_⟩
  ·cases hh:db m.rules none o.ch with
   |true=>rfl
   |false=>exact absurd (pE.2 ⟨l,hl,pE.2 ⟨o,ho,by rw[hh];rfl⟩⟩) h2
  ·cases hh:fN m c with
   |true=>rfl
   |false=>exact absurd (pE.2 ⟨c,hc,by rw[hh];rfl⟩) h4
 ·intro h;have h0:qa m=false:=by
   rw[qa,decide_eq_false_iff_not];rintro(h'|h'|h'|h'|h'|h')
   ·have:=h.cls;omega
   ·obtain⟨l,hl,Dh⟩:=pE.1 h';have:=h.opt l hl;simp only[decide_eq_true_eq]at Dh;omega
   ·have:=h.ae;omega
   ·have:=h.ar;omega
   ·have:=h.iS;omega
   ·have:=h.iS;omega
  rw[if_neg (by rw[h0];simp),if_neg,if_neg (by rw[h.pr];simp),if_neg]
  ·intro hh;obtain⟨c,hc,h'⟩:=pE.1 hh;rw[h.ct c hc]at h';simp at h'
  ·intro hh;obtain⟨l,hl,h'⟩:=pE.1 hh;obtain⟨o,ho,Dh⟩:=pE.1 h';rw[h.kQ l hl o ho]at Dh;simp at Dh
def u9{R:Int}:∀ {l:List (Int×Int)} {q:Option (Int×Int)},db R q l=true->∀ c∈l,ij R c.1=true/\iF c.2=true
 |[],_,_,c,hc=>by simp at hc
 |x::r,q,h,c,hc=>by
  rw[db.eq_def]at h;simp only[ba]at h;rcases b8.1 hc with rfl|hc
  ·exact h.1.1
  ·exact u9 h.2 c hc
def Di{R:Int}:∀ {l:List (Int×Int)} {q:Int×Int},db R (some q) l=true->l=[]\/q.1+l.length<R
 |[],_,_=>.inl rfl
 |x::r,q,h=>by
  right;rw[db]at h;simp only[ba,decide_eq_true_eq,ij]at h;rcases Di h.2 with rfl|h5
  ·simp only[dz,mq];omega
  ·simp only[dz];omega
def C5{R:Int}{l:List (Int×Int)}(hR:0<=R)(h:db R none l=true):(l.length:Int)<=R:=by
 cases l with
 |nil=>simpa using hR
 |cons x r =>
  rw[db]at h;simp only[ba,decide_eq_true_eq,ij]at h;rcases Di h.2 with rfl|h5
  ·simp only[dz,mq];omega
  ·simp only[dz];omega
def jo{m:aj}:∀ {l:List Pr} {q:Option Pr},dW m q l=true->∀ p∈l,eS m p=true
 |[],_,_,c,hc=>by simp at hc
 |x::r,q,h,c,hc=>by
  rw[dW.eq_def]at h;simp only[ba]at h;rcases b8.1 hc with rfl|hc
  ·exact h.1.1
  ·exact jo h.2 c hc
def gV{m:aj}{c o:Int}:gW m c o=true↔0<=c/\c<m.cls.length/\0<=o/\o<(m.cls.getD c.toNat default).length:=by rw[gW,decide_eq_true_eq]
def QM{m:aj}(h:VM m){c o:Int}(hb:gW m c o=true):0<=c/\c<24/\0<=o/\o<24:=by
 obtain⟨h1,h2,h3,h4⟩:=gV.1 hb;have:=h.cls;have:=h.opt _ (aC (l:=m.cls) (i:=c.toNat) (d:=default) I6);omega
def Av(a b:Int):(a<b/\mQ a b = -1)\/(a=b/\mQ a b=0)\/(b<a/\mQ a b=1):=by
 unfold mQ;rcases Int.lt_trichotomy a b with h|h|h
 ·left;exact⟨h,by rw[if_pos h]⟩
 ·right;left;exact⟨h,by rw[if_neg I6,if_neg I6]⟩
 ·right;right;exact⟨h,by rw[if_neg I6,if_pos h]⟩
def Dj{a b:Ld}:rf a b<0↔a.cls<b.cls\/(a.cls=b.cls/\a.opt<b.opt):=by
 unfold rf;rcases Av a.cls b.cls with⟨h,e⟩|⟨h,e⟩|⟨h,e⟩<;>rcases Av a.opt b.opt with⟨h',e'⟩|⟨h',e'⟩|⟨h',e'⟩<;>simp[re,e,e']<;>omega
def GN{a b:Pr}:mh a b<0↔a.aV<b.aV\/(a.aV=b.aV/\(a.fst<b.fst\/(a.fst=b.fst/\a.snd<b.snd))):=by
 unfold mh;rcases Av a.aV b.aV with⟨h,e⟩|⟨h,e⟩|⟨h,e⟩<;>rcases Av a.fst b.fst with⟨h',e'⟩|⟨h',e'⟩|⟨h',e'⟩<;>rcases Av a.snd b.snd with⟨h2,e2⟩|⟨h2,e2⟩|⟨h2,e2⟩<;>simp[re,e,e',e2]<;>omega
def QN{m:aj}(hm:VM m):∀ {l:List Ld} {q:Ld},dm m (some q) l=true->0<=q.cls/\0<=q.opt/\q.opt<24->l=[]\/q.cls*24+q.opt+l.length<576
 |[],_,_,_=>.inl rfl
 |x::r,q,h,hq=>by
  right;rw[dm]at h;simp only[ba,decide_eq_true_eq]at h;obtain⟨⟨⟨h1,h2⟩,h3⟩,h4⟩:=h;obtain⟨a,b,c,d⟩:=QM hm h1;have bq:q.cls*24+q.opt<x.cls*24+x.opt:=by
   rcases Dj.1 h3 with h|h<;>omega
  rcases QN hm h4 ⟨a,c,d⟩ with rfl|h5
  ·simp only[dz,mq];omega
  ·simp only[dz];omega
def Al{m:aj}(hm:VM m){l:List Ld}(h:dm m none l=true):l.length<=576:=by
 cases l with
 |nil=>simp
 |cons x r =>
  rw[dm]at h;simp only[ba,decide_eq_true_eq]at h;obtain⟨a,b,c,d⟩:=QM hm h.1.1.1;rcases QN hm h.2 ⟨a,c,d⟩ with rfl|h5
  ·simp
  ·simp only[dz];omega
def o8{m:aj}:∀ {l:List Ld} {q:Option Ld},dm m q l=true->∀ x∈l,gW m x.cls x.opt=true/\1<=x.wt/\x.wt<=1000
 |[],_,_,c,hc=>by simp at hc
 |x::r,q,h,c,hc=>by
  rw[dm.eq_def]at h;simp only[ba,decide_eq_true_eq]at h;rcases b8.1 hc with rfl|hc
  ·exact⟨h.1.1.1,h.1.1.2⟩
  ·exact o8 h.2 c hc
def QO{m:aj}{plan:List Int}:∀ {l:List Ld},(∀ x∈l,1<=x.wt/\x.wt<=1000)->∀ n,n<=kv plan l n/\kv plan l n<=n+1000*l.length
 |[],_,n=>by simp[kv]
 |x::r,h,n=>by
  have hx:=h x Jd;rw[kv];have:=QO (m:=m) (plan:=plan) (l:=r) (λy hy=>h y (by simp[hy])) (if plan.getD x.cls.toNat 0=x.opt then n+x.wt else n);simp only[dz];split at this<;>split<;>simp_all<;>omega
def Aw{most bM sum:Int}(h:bL bM):bL (jP most bM sum):=by
 unfold jP bL at *;split
 ·omega
 ·have:0<=(sum-most)*bM:=rR I6 h.1;omega
def QP{R:Int}:∀ {l:List (Int×Int)} {out:List Int},iV R out->(∀ c∈l,iF c.2=true)->iV R (qb l out)
 |[],_,h,_=>h
 |c::r,out,h,hc=>by rw[qb];exact QP (h.add (lN (hc c Jd))) λx hx=>hc x (by simp[hx])
def QQ{m:aj}:∀ {plan:List Int} {i:Nat},tH m i plan=true->∀ j,j<plan.length->plan.getD j 0 = -1\/gW m ((i+j:Nat):Int) (plan.getD j 0)=true
 |[],_,_,j,hj=>by simp at hj
 |o::r,i,h,j,hj=>by
  rw[tH]at h;simp only[ba,Bool.or_eq_true,decide_eq_true_eq]at h;cases j with
  |zero=>rw[fQ];exact h.1
  |succ j =>
   rw[ep];have:=QQ h.2 j (by simpa using hj);rwa [show i+1+j=i+(j+1) by omega]at this
structure PM(m:aj)(plan:List Int):Prop where
 len:plan.length=m.cls.length
 get:∀ j,j<plan.length->plan.getD j 0 = -1\/gW m (j:Nat) (plan.getD j 0)=true
def Z0{m:aj}{plan:List Int}(h:tI m plan=true):PM m plan:=by
 unfold tI at h;split at h
 ·simp at h
 ·refine⟨I6,λj hj=>?_⟩;have:=QQ h j hj;rwa [eW]at this
def lr{m:aj}{p:Pr}(h:eS m p=true):(0<=p.aV/\p.aV<m.rules)/\0<=p.fst/\p.fst<p.snd/\p.snd<m.cls.length/\(p.ay.length:Int)=(m.cls.getD p.fst.toNat default).length*(m.cls.getD p.snd.toNat default).length:=by
 unfold eS ij at h;simp only[ba,decide_eq_true_eq]at h;exact⟨h.1.1,h.1.2⟩
def u5{x y a b:Int}(hx:0<=x/\x<a)(hy:0<=y/\y<b)(ha:a<=24)(hb:b<=24):0<=x*b/\x*b<=576/\x*b+y<a*b:=by
 have h1:0<=x*b:=rR hx.1 I6;have h2:x*b<=(a-1)*b:=Int.mul_le_mul_of_nonneg_right I6 I6;have h3:(a-1)*b=a*b-b:=by rw[Int.sub_mul,Int.one_mul]
 have h4:a*b<=24*24:=qy ha hb I6 I6;omega
def lp{m:aj}{c:Ct}(h:fN m c=true):(0<=c.aV/\c.aV<m.rules)/\(0<=c.most/\c.most<=1048576)/\iF c.bM=true/\dm m none c.aS=true:=by
 unfold fN ij at h;simp only[ba,decide_eq_true_eq]at h;exact⟨h.1.1.1,h.1.1.2,h.1.2,h.2⟩
def Ax{m:aj}{p:Pr}(hp:eS m p=true)(x y:Int):bL (mP m p x y):=by
 unfold mP;rcases eh (x*(m.cls.getD p.snd.toNat default).length+y).toNat p.ay.length with h|h
 ·unfold eS at hp;simp only[ba,jW,ER]at hp;have:=hp.2 _ (aC (d:=0) h);unfold mR at this;simp only[ba,decide_eq_true_eq,jW,not_and,Bool.not_eq_false]at this;generalize p.ay.getD (x*(m.cls.getD p.snd.toNat default).length+y).toNat 0=n at *;by_cases h0:n=0
  ·subst h0;unfold bL;decide
  ·exact lN (this h0)
 ·rw[aA,eE h];unfold bL;decide
def QR{R:Int}{c:Int×Int}:∀ {l:List (Int×Int)} {q:Option (Int×Int)},db R q l=true->ij R c.1=true->iF c.2=true->(∀ x∈l,x.1<c.1)->(∀ y,q=some y->y.1<c.1)->db R q (l++[c])=true
 |[],q,_,h1,h2,_,h3=>by
  rw[da,db.eq_def];cases q with
  |none=>simp[h1,h2,db]
  |some y=>simp[h1,h2,db,h3 y rfl]
 |x::r,q,h,h1,h2,h3,h4=>by
  rw[db.eq_def]at h;simp only[ba]at h;rw[cW,db.eq_def];simp only[ba];exact⟨h.1,QR h.2 h1 h2 (λy hy=>h3 y (by simp[hy])) (λy hy=>by simp only[cT.injEq]at hy;subst hy;exact h3 _ Jd)⟩
def QT{m:aj}{c:Pr}:∀ {l:List Pr} {q:Option Pr},dW m q l=true->eS m c=true->(∀ x∈l,mh x c<0)->(∀ y,q=some y->mh y c<0)->dW m q (l++[c])=true
 |[],q,_,h1,_,h3=>by
  rw[da,dW.eq_def];cases q with
  |none=>simp[h1,dW]
  |some y=>simp[h1,dW,h3 y rfl]
 |x::r,q,h,h1,h3,h4=>by
  rw[dW.eq_def]at h;simp only[ba]at h;rw[cW,dW.eq_def];simp only[ba];exact⟨h.1,QT h.2 h1 (λy hy=>h3 y (by simp[hy])) (λy hy=>by simp only[cT.injEq]at hy;subst hy;exact h3 _ Jd)⟩
def QU{m:aj}{c:Ld}:∀ {l:List Ld} {q:Option Ld},dm m q l=true->gW m c.cls c.opt=true->(1<=c.wt/\c.wt<=1000)->(∀ x∈l,rf x c<0)->(∀ y,q=some y->rf y c<0)->dm m q (l++[c])=true
 |[],q,_,h1,h2,_,h3=>by
  rw[da,dm.eq_def];cases q with
  |none=>simp[h1,h2,dm]
  |some y=>simp[h1,h2,dm,h3 y rfl]
 |x::r,q,h,h1,h2,h3,h4=>by
  rw[dm.eq_def]at h;simp only[ba]at h;rw[cW,dm.eq_def];simp only[ba];exact⟨h.1,QU h.2 h1 h2 (λy hy=>h3 y (by simp[hy])) (λy hy=>by simp only[cT.injEq]at hy;subst hy;exact h3 _ Jd)⟩
def QV{cls:List (List br)}{R:Int}{a b:List Pr}{c d:List Ct}:∀ (l:List Pr) (q:Option Pr),dW ⟨cls,a,c,R⟩ q l=dW ⟨cls,b,d,R⟩ q l
 |[],_=>rfl
 |x::r,q=>by
  have:=QV (cls:=cls) (R:=R) (a:=a) (b:=b) (c:=c) (d:=d) r (some x);cases q<;>simp only[dW,this]<;>rfl
def QW{cls:List (List br)}{R:Int}{a b:List Pr}{c d:List Ct}:∀ (l:List Ld) (q:Option Ld),dm ⟨cls,a,c,R⟩ q l=dm ⟨cls,b,d,R⟩ q l
 |[],_=>rfl
 |x::r,q=>by
  have:=QW (cls:=cls) (R:=R) (a:=a) (b:=b) (c:=c) (d:=d) r (some x);cases q<;>simp only[dm,this]<;>rfl
def Z1{cls:List (List br)}{R:Int}{a b:List Pr}{c d:List Ct}(x:Ct):fN ⟨cls,a,c,R⟩ x=fN ⟨cls,b,d,R⟩ x:=by
 unfold fN;rw[QW (a:=a) (b:=b) (c:=c) (d:=d)]
def GO(L:List Int)(k:Nat):0<=nL L k/\nL L k<=1099511627776/\(0<nL L k->iF (nL L k)=true):=by
 have h6:=lQ (L:=L) (k:=k) (n:=6) I6;have ZV:=lQ (L:=L) (k:=cO L k) (n:=20) I6;unfold nL;split
 ·exact⟨I6,I6,I6⟩
 ·split
  ·exact⟨I6,I6,λ_=>aab⟩
  ·refine⟨I6,I6,λ_=>?_⟩;rw[iF,decide_eq_true_eq];omega
def GP{L:List Int}{k:Nat}(h:k<=L.length):sF L k<=L.length:=by
 unfold sF;split
 ·exact fY h
 ·exact fY (fY h)
structure MM(m:aj)(nN options:Nat):Prop where
 vm:VM m
 nG:m.cls.length<=nN
 some:∀ l∈m.cls,1<=l.length/\l.length<=options
 iS:1<=m.rules/\m.rules<=4
 ar:m.ar.length<=2
def VM.mb{m:aj}(h:VM m):MB m:=by
 refine⟨by have:=h.cls;omega,λl hl=>by have:=h.opt l hl;omega,λl hl o ho=>?_,by have:=h.ae;omega,λp hp=>?_,by have:=h.ar;omega,λc hc=>?_⟩
 ·have:=C5 h.iS.1 (h.kQ l hl o ho);have:=h.iS;omega
 ·obtain⟨_,h1,h2,h3,h4⟩:=lr (jo h.pr p hp);have a:=h.opt _ (aC (l:=m.cls) (i:=p.fst.toNat) (d:=default) I6);have b:=h.opt _ (aC (l:=m.cls) (i:=p.snd.toNat) (d:=default) I6);have:((m.cls.getD p.fst.toNat default).length:Int)*(m.cls.getD p.snd.toNat default).length<=24*24:=qy I6 I6 I6 I6;omega
 ·have:=Al h (lp (h.ct c hc)).2.2.2;omega
def cB(L:List Int)(k:Nat)(cls:List (List br))(ae:List Pr)(ar:List Ct)(R:Int):List Ob :=
 [.var [.tree 1 (ints L),aa3 k],.var [.lit (.slice none 0 0),.lit (.slice none 0 0),.lit (.slice none 0 0),aa3 0],
  .var [.ref 3 1 0 cls.length,.ref 4 4 0 ae.length,.ref 5 4 0 ar.length,aa3 R],.arr 1 (rowsOf bD cls),.arr 4 (rowsOf bu ae),.arr 4 (rowsOf aK ar)]
def QX(R:Int)(l:List br):Prop:=∀ o∈l,db R none o.ch=true
def Ay(p:Pr)(u i k:Nat):Prop:=p.aV<u\/(p.aV=u/\(p.fst<i\/(p.fst=i/\p.snd<k)))
structure tJ(cls:List (List br))(R:Int)(ae:List Pr)(u i k:Nat):Prop where
 ok:dW ⟨cls,[],[],R⟩ none ae=true
 lt:∀ p∈ae,Ay p u i k
 len:ae.length<=576*u+24*i+k
def tJ.mono{cls:List (List br)}{R:Int}{ae:List Pr}{u i k u' i' k':Nat}(h:tJ cls R ae u i k)(hl:u<u'\/(u=u'/\(i<i'\/(i=i'/\k<=k'))))(hs:576*u+24*i+k<=576*u'+24*i'+k'):tJ cls R ae u' i' k' :=
 ⟨h.ok,λp hp=>by have:=h.lt p hp;unfold Ay at *;omega,by have:=h.len;omega⟩
def tJ.app{cls:List (List br)}{R:Int}{ae:List Pr}{u i k:Nat}(h:tJ cls R ae u i k){ay:List Int}(hp:eS ⟨cls,[],[],R⟩ ⟨i,k,u,ay⟩=true):tJ cls R (ae++[⟨i,k,u,ay⟩]) u i (k+1):=by
 refine⟨QT h.ok hp (λx hx=>?_) Jd,λp hp=>?_,by have:=h.len;simp;omega⟩
 ·have:=h.lt x hx;rw[GN];unfold Ay at this;dsimp only;omega
 ·rcases cj.1 hp with hp|hp
  ·have:=h.lt p hp;unfold Ay at *;omega
  ·simp only[ew]at hp;subst hp;unfold Ay;dsimp only;omega
def Z2{cls:List (List br)}{R:Int}{ay:List Int}{i k u:Nat}(hu:(u:Int)<R)(hik:i<k)(hk:k<cls.length)(ht:ay.length=(cls.getD i default).length*(cls.getD k default).length)(hc:∀ x∈ay,0<=x/\(0<x->iF x=true)):
  eS ⟨cls,[],[],R⟩ ⟨i,k,u,ay⟩=true:=by
 unfold eS ij;simp only[ba,decide_eq_true_eq,jW,gA,ER];refine⟨⟨⟨I6,hu⟩,I6,I6,I6,?_⟩,λx hx=>?_⟩
 ·rw[ht];simp
 ·unfold mR;have:=hc x hx;by_cases h0:x=0
  ·subst h0;decide
  ·rw[this.2 I6];simp
structure va(cls:List (List br))(R:Int)(l:List Ld)(i k:Nat):Prop where
 ok:dm ⟨cls,[],[],R⟩ none l=true
 lt:∀ x∈l,x.cls<i\/(x.cls=i/\x.opt<k)
 len:l.length<=24*i+k
def va.mono{cls:List (List br)}{R:Int}{l:List Ld}{i k i' k':Nat}(h:va cls R l i k)(hl:i<i'\/(i=i'/\k<=k'))(hs:24*i+k<=24*i'+k'):va cls R l i' k' :=
 ⟨h.ok,λp hp=>by have:=h.lt p hp;omega,by have:=h.len;omega⟩
def va.app{cls:List (List br)}{R:Int}{l:List Ld}{i k:Nat}(h:va cls R l i k){w:Int}(hi:i<cls.length)(hk:k<(cls.getD i default).length)(hw:1<=w/\w<=1000):va cls R (l++[⟨i,k,w⟩]) i (k+1):=by
 refine⟨QU h.ok (gV.2 ⟨aaK,aaK,aaK,by simp;exact hk⟩) hw (λx hx=>?_) Jd,λp hp=>?_,by have:=h.len;simp;omega⟩
 ·have:=h.lt x hx;rw[Dj];dsimp only;omega
 ·rcases cj.1 hp with hp|hp
  ·have:=h.lt p hp;omega
  ·simp only[ew]at hp;subst hp;dsimp only;omega
def Dk:(default:br).ch=[]:=rfl
def QY{m:aj}(hm:VM m):∀ (plan:List Int) (i:Nat) (out:List Int),iV m.rules out->iV m.rules (oC m i plan out)
 |[],_,_,h=>h
 |o::r,i,out,h=>by
  rw[oC];refine QY hm r (i+1) _ ?_;split
  ·exact h
  ·refine QP h λc hc=>?_;rcases eh i m.cls.length with hi|hi
   ·have hl:=aC (d:=(default:List br)) hi;generalize m.cls.getD i default=l at *;rcases eh o.toNat l.length with ho|ho
    ·exact(u9 (hm.kQ l hl _ (aC ho)) c hc).2
    ·rw[show l.getD o.toNat default=default by rw[aA,eE ho];rfl]at hc;exact absurd hc (by rw[Dk];simp)
   ·rw[show m.cls.getD i default=[] by rw[aA,eE hi];rfl]at hc;exact absurd hc (by rw[List.getD_nil,Dk];simp)
def QZ{m:aj}{plan:List Int}:∀ (l:List Pr) (out:List Int),(∀ p∈l,eS m p=true)->iV m.rules out->iV m.rules (nM m plan l out)
 |[],_,_,h=>h
 |p::r,out,hp,h=>by
  rw[nM];refine QZ r _ (λq hq=>hp q (by simp[hq])) ?_;split
  ·exact h.add (Ax (hp p Jd) _ _)
  ·exact h
def Q2{m:aj}{plan:List Int}:∀ (l:List Ct) (out:List Int),(∀ c∈l,fN m c=true)->iV m.rules out->iV m.rules (oD plan l out)
 |[],_,_,h=>h
 |c::r,out,hp,h=>by
  rw[oD];exact Q2 r _ (λq hq=>hp q (by simp[hq])) (h.add (Aw (lN (lp (hp c Jd)).2.2.1)))
def GQ{m:aj}(hm:VM m)(plan:List Int):iV m.rules (iC m plan) :=
 Q2 _ _ hm.ct (QZ _ _ (jo hm.pr) (QY hm _ _ _ (iV.rep hm.iS.1)))
def iI:List Int->Int
 |[]=>0
 |x::r=>x+iI r
def GR:∀ {l:List Int},(∀ x∈l,bL x)->0<=iI l/\iI l<=1099511627776*l.length
 |[],_=>by simp[iI]
 |x::r,h=>by
  have:=GR λy hy=>h y (List.mem_cons_of_mem x hy);have:=h x Jd;unfold bL at this;simp only[iI,dz];omega
def Dl:∀ {l:List Int} {n:Int},(∀ x∈l,bL x)->bL n->jO l n=min (n+iI l) 1099511627776
 |[],n,_,hn=>by unfold bL at hn;simp only[jO,iI];omega
 |x::r,n,h,hn=>by
  have hx:=h x Jd;have hr:∀ y∈r,bL y:=λy hy=>h y (by simp[hy]);rw[jO,Dl hr (yu hn hx)];have:=GR hr;unfold bL at hx hn;simp only[dx,iI];omega
def GU:∀ {l:List Int},(∀ x∈l,bL x)->∀ x∈l,x<=iI l
 |[],_,x,hx=>by simp at hx
 |y::r,h,x,hx=>by
  have hr:∀ z∈r,bL z:=λz hz=>h z (by simp[hz]);have:=(GR hr).1;have hy:=h y Jd;unfold bL at hy;rcases b8.1 hx with rfl|hx
  ·simp only[iI];omega
  ·have:=GU hr x hx;simp only[iI];omega
def jr:List Ld->Int->Int->Int->Int
 |[],_,_,w=>w
 |x::r,c,o,w=>jr r c o (if x.cls=c/\x.opt=o then x.wt else w)
def jt(l:List Ld)(c:Int):Nat->List Bool->Int->Int
 |_,[],b=>b
 |o,is::r,b=>jt l c (o+1) r (if is=true/\(b<0\/jr l c o 0<b) then jr l c o 0 else b)
def nO(l:List Ld)(c:Int)(row:List Bool):Int:=max (jt l c 0 row (-1)) 0
def rh(l:List Ld):Nat->List (List Bool)->Int->Int
 |_,[],n=>n
 |i,row::r,n=>rh l (i+1) r (n+nO l i row)
def nP(left:List (List Bool))(c:Ct):Int:=jP c.most c.bM (rh c.aS 0 left 0)
def Z3(l:List Ld)(x:Ld)(c o:Int):∀ w,jr (l++[x]) c o w=if x.cls=c/\x.opt=o then x.wt else jr l c o w:=by
 induction l with
 |nil=>intro w;rfl
 |cons y r ih=>intro w;exact ih _
def GV:∀ {l:List Ld} {c:Int} (o w:Int),(∀ x∈l,x.cls≠c)->jr l c o w=w
 |[],_,_,_,_=>rfl
 |x::r,c,o,w,h=>by
  rw[jr,if_neg (λe=>h x Jd e.1)];exact GV o w λy hy=>h y (by simp[hy])
def yv{l:List Ld}(h:∀ x∈l,1<=x.wt/\x.wt<=1000)(c o:Int):∀ w,0<=w/\w<=1000->0<=jr l c o w/\jr l c o w<=1000:=by
 induction l with
 |nil=>intro w hw;exact hw
 |cons x r ih =>
  intro w hw;rw[jr];refine ih (λy hy=>h y (by simp[hy])) _ ?_;have:=h x Jd;split<;>omega
def Q3{l:List Ld}{c:Int}(h:∀ x∈l,x.cls≠c):∀ (row:List Bool) (o:Nat) (b:Int),-1<=b/\b<=0->-1<=jt l c o row b/\jt l c o row b<=0
 |[],_,b,hb=>hb
 |is::r,o,b,hb=>by
  rw[jt];refine Q3 h r (o+1) _ ?_;rw[GV _ _ h];split<;>omega
def Q4{l:List Ld}{c:Int}(h:∀ x∈l,x.cls≠c)(row:List Bool):nO l c row=0:=by
 have:=Q3 h row 0 (-1) I6;unfold nO;omega
def Q5{l:List Ld}(h:∀ x∈l,1<=x.wt/\x.wt<=1000)(c:Int):∀ (row:List Bool) (o:Nat) (b:Int),-1<=b/\b<=1000->-1<=jt l c o row b/\jt l c o row b<=1000
 |[],_,b,hb=>hb
 |is::r,o,b,hb=>by
  rw[jt];refine Q5 h c r (o+1) _ ?_;have:=yv h c o 0 I6;split<;>omega
def Z4{l:List Ld}(h:∀ x∈l,1<=x.wt/\x.wt<=1000)(c:Int)(row:List Bool):0<=nO l c row/\nO l c row<=1000:=by
 have:=Q5 h c row 0 (-1) I6;unfold nO;omega
def bf(f:Nat->Int):Nat->Int
 |0=>0
 |n+1=>bf f n+f n
def ju{f g:Nat->Int}:∀ (n:Nat),(∀ i<n,f i=g i)->bf f n=bf g n
 |0,_=>rfl
 |n+1,h=>by rw[bf,bf,ju n λi hi=>h i I6,h n I6]
def GW{f:Nat->Int}{B:Int}:∀ (n:Nat),(∀ i<n,0<=f i/\f i<=B)->0<=bf f n/\bf f n<=B*n
 |0,_=>by simp[bf]
 |n+1,h=>by
  have h1:=GW n λi hi=>h i I6;have h2:=h n I6;rw[bf,Int.natCast_add,Int.mul_add];simp only[Int.cast_ofNat_Int,Int.mul_one];omega
def yw(f:Nat->Int)(k:Nat)(v:Int):∀ (n:Nat),bf (λi=>if i=k then f i+v else f i) n=bf f n+if k<n then v else 0
 |0=>by simp[bf]
 |n+1=>by
  rw[bf,bf,yw f k v n];by_cases h:n=k
  ·subst h;rw[if_pos rfl,if_neg I6,if_pos I6];omega
  ·rw[if_neg h];by_cases h2:k<n
   ·rw[if_pos h2,if_pos I6];omega
   ·rw[if_neg h2,if_neg I6];omega
def wP(f:Nat->Int):∀ n,bf f (n+1)=f 0+bf (λi=>f (i+1)) n
 |0=>by simp[bf]
 |n+1=>by rw[bf,wP f n,bf];omega
def yx(l:List Ld):∀ (left:List (List Bool)) (i:Nat) (n:Int),rh l i left n=n+bf (λj=>nO l (i+j:Nat) (left.getD j [])) left.length
 |[],i,n=>by simp[rh,bf]
 |row::r,i,n=>by
  rw[rh,yx l r (i+1),dz,wP];simp only[fQ,ep,Nat.add_zero];rw[ju (g:=λj=>nO l (i+(j+1):Nat) (r.getD j [])) r.length λj _=>by rw[show i+1+j=i+(j+1) by omega]];omega
def Z5{l:List Ld}(h:∀ x∈l,1<=x.wt/\x.wt<=1000)(left:List (List Bool)):0<=rh l 0 left 0/\rh l 0 left 0<=1000*left.length:=by
 rw[yx,vN];exact GW _ λi _=>Z4 h _ _
abbrev nQ:=Int×Nat×List (Int×Int)
def vE(es:List (Int×Int)):List (Int×Value):=es.map λp=>(p.1,.int .i64 p.2)
def gE(A:List nQ):List (Int×Value):=A.map λe=>(e.1,.map (some e.2.1))
def wQ(o w:Int):List (Int×Int)->List (Int×Int)
 |[]=>[(o,w)]
 |p::r=>if p.1=o then(o,w)::r else p::wQ o w r
def vb(o:Int):List (Int×Int)->Int
 |[]=>0
 |p::r=>if p.1=o then p.2 else vb o r
def Q6(o w:Int):∀ es,ss o (.int .i64 w) (vE es)=vE (wQ o w es)
 |[]=>rfl
 |p::r=>by
  show ss o _ ((p.1,Value.int .i64 p.2)::vE r)=_;rw[ss,wQ];by_cases h:p.1=o
  ·rw[if_pos h,if_pos h];rfl
  ·rw[if_neg h,if_neg h,Q6 o w r];rfl
def Q7(o w x:Int):∀ es,vb x (wQ o w es)=if o=x then w else vb x es
 |[]=>rfl
 |p::r=>by
  rw[wQ];by_cases h:p.1=o
  ·rw[if_pos h,vb,vb];by_cases h2:o=x
   ·rw[if_pos h2,if_pos h2]
   ·rw[if_neg h2,if_neg h2,if_neg I6]
  ·rw[if_neg h,vb,vb,Q7 o w x r];by_cases h2:p.1=x
   ·rw[if_pos h2,if_neg I6,if_pos h2]
   ·rw[if_neg h2,if_neg h2]
def Q8(c:Int)(b:Nat):∀ A:List nQ,(∀ e∈A,e.1≠c)->ss c (.map (some b)) (gE A)=gE (A++[(c,b,[])])
 |[],_=>rfl
 |e::r,h=>by
  show ss c _ ((e.1,Value.map (some e.2.1))::gE r)=_;rw[ss,if_neg (h e Jd),Q8 c b r λx hx=>h x (by simp[hx])];rfl
structure GI(R:Nat)(dn:List Ld)(A:List nQ)(b0:Nat)(μ:Mem):Prop where
 top:μ b0=some (.map (iE (gE A)))
 sub:∀ e∈A,μ e.2.1=some (.map (iE (vE e.2.2)))
 yy:∀ e∈A,e.2.1≠b0
 inj:∀ e∈A,∀ e'∈A,e.2.1=e'.2.1->e=e'
 keys:(A.map (·.1)).Nodup
 val:∀ e∈A,∀ o,vb o e.2.2=jr dn e.1 o 0
 has:∀ x∈dn,∃ e∈A,e.1=x.cls
 yz:∀ e∈A,0<=e.1/\e.1<R
def GI.nil{R b0:Nat}{μ:Mem}(h:μ b0=some (.map [])):GI R [] [] b0 μ:=⟨h,Jd,Jd,Jd,Jd,Jd,Jd,Jd⟩
def GI.new{R:Nat}{dn:List Ld}{A:List nQ}{b0:Nat}{μ:Mem}(h:GI R dn A b0 μ){c:Int}(Z6:0<=c/\c<R)(hc:∀ e∈A,e.1≠c){b:Nat}(hb:μ b=none):GI R dn (A++[(c,b,[])]) b0 (nF (nF μ b (.map [])) b0 (.map (iE (ss c (.map (some b)) (gE A))))):=by
 have yA:b≠b0:=λe=>by rw[e,h.top]at hb;cases hb
 have oU:∀ e∈A,e.2.1≠b:=λe he e2=>by have:=h.sub e he;rw[e2,hb]at this;cases this
 refine⟨by rw[CS,Q8 c b A hc],λe he=>?_,λe he=>?_,λe he e' oE hh=>?_,?_,λe he o=>?_,λx hx=>?_,λe he=>?_⟩
 ·rcases cj.1 he with he|he
  ·rw[uR _ _ (h.yy e he),uR _ _ (oU e he)];exact h.sub e he
  ·simp only[ew]at he;subst he;rw[uR _ _ yA,CS];rfl
 ·rcases cj.1 he with he|he
  ·exact h.yy e he
  ·simp only[ew]at he;subst he;exact yA
 ·rcases cj.1 he with he|he<;>rcases cj.1 oE with oE|oE
  ·exact h.inj e he e' oE hh
  ·simp only[ew]at oE;subst oE;exact absurd hh (oU e he)
  ·simp only[ew]at he;subst he;exact absurd hh.symm (oU e' oE)
  ·simp only[ew]at he oE;rw[he,oE]
 ·rw[List.map_append,List.nodup_append];refine⟨h.keys,Jd,λa ha b' cX=>?_⟩;obtain⟨e,he,rfl⟩:=bZ.1 ha;simp only[dJ,List.map_nil,ew]at cX;rw[cX];exact hc e he
 ·rcases cj.1 he with he|he
  ·exact h.val e he o
  ·simp only[ew]at he;subst he;rw[GV]
   ·rfl
   ·intro x hx qU;obtain⟨e,he,tK⟩:=h.has x hx;exact hc e he (tK.trans qU)
 ·obtain⟨e,he,tK⟩:=h.has x hx;exact⟨e,List.mem_append_left _ he,tK⟩
 ·rcases cj.1 he with he|he
  ·exact h.yz e he
  ·simp only[ew]at he;subst he;exact Z6
def e7(c o w:Int)(A:List nQ):List nQ:=A.map λe=>if e.1=c then(e.1,e.2.1,wQ o w e.2.2) else e
def Z7(c o w:Int)(A:List nQ):gE (e7 c o w A)=gE A:=by
 unfold gE e7;rw[uq];refine kG λe _=>?_;simp only[Function.comp];split<;>rfl
def GI.put{R:Nat}{dn:List Ld}{A:List nQ}{b0:Nat}{μ:Mem}(h:GI R dn A b0 μ){x:Ld}{e0:nQ}(od:e0∈A)(hc:e0.1=x.cls):GI R (dn++[x]) (e7 x.cls x.opt x.wt A) b0 (nF μ e0.2.1 (.map (iE (ss x.opt (.int .i64 x.wt) (vE e0.2.2))))):=by
 have uniq:∀ e∈A,e.1=x.cls->e=e0:=λe he hh=>by
  have hk:=h.keys;obtain⟨i,hi,rfl⟩:=rJ.1 he;obtain⟨j,hj,rfl⟩:=rJ.1 od;have:i=j:=(List.getElem_inj (h₀:=by simpa using hi) (h₁:=by simpa using hj) hk).1 (by simp only[List.getElem_map];rw[hh,hc]);subst this;rfl
 have one:∀ e∈e7 x.cls x.opt x.wt A,(e=(e0.1,e0.2.1,wQ x.opt x.wt e0.2.2))\/(e∈A/\e.1≠x.cls):=λe he=>by
  obtain⟨e',oE,rfl⟩:=bZ.1 he;by_cases hh:e'.1=x.cls
  ·left;rw[if_pos hh,uniq e' oE hh]
  ·right;rw[if_neg hh];exact⟨oE,hh⟩
 have oU:∀ e∈A,e.1≠x.cls->e.2.1≠e0.2.1:=λe he hh e2=>hh (by rw[h.inj e he e0 od e2,hc]);refine⟨by rw[uR _ _ (h.yy e0 od).symm,Z7];exact h.top,λe he=>?_,λe he=>?_,λe he e' oE hh=>?_,?_,λe he o=>?_,λy hy=>?_,λe he=>?_⟩
 ·rcases one e he with rfl|⟨h1,h2⟩
  ·rw[CS,Q6]
  ·rw[uR _ _ (oU e h1 h2)];exact h.sub e h1
 ·rcases one e he with rfl|⟨h1,h2⟩
  ·exact h.yy e0 od
  ·exact h.yy e h1
 ·rcases one e he with rfl|⟨h1,h2⟩<;>rcases one e' oE with rfl|⟨h3,h4⟩
  ·rfl
  ·exact absurd hh.symm (oU e' h3 h4)
  ·exact absurd hh (oU e h1 h2)
  ·exact h.inj e h1 e' h3 hh
 ·have:(e7 x.cls x.opt x.wt A).map (·.1)=A.map (·.1):=by
   unfold e7;rw[uq];refine kG λe _=>?_;simp only[Function.comp];split<;>rfl
  rw[this];exact h.keys
 ·rw[Z3];rcases one e he with rfl|⟨h1,h2⟩
  ·dsimp only;rw[Q7,h.val e0 od o];by_cases ho:x.opt=o
   ·rw[if_pos ho,if_pos ⟨hc.symm,ho⟩]
   ·rw[if_neg ho,if_neg (λe=>ho e.2)]
  ·rw[if_neg (λe=>h2 e.1.symm)];exact h.val e h1 o
 ·have mem:∀ e∈A,∃ e'∈e7 x.cls x.opt x.wt A,e'.1=e.1:=λe he=>⟨_,List.mem_map_of_mem he,by split<;>rfl⟩;rcases cj.1 hy with hy|hy
  ·obtain⟨e,he,tK⟩:=h.has y hy;obtain⟨e',k1,k2⟩:=mem e he;exact⟨e',k1,k2.trans tK⟩
  ·simp only[ew]at hy;subst hy;obtain⟨e',k1,k2⟩:=mem e0 od;exact⟨e',k1,k2.trans hc⟩
 ·rcases one e he with rfl|⟨h1,h2⟩
  ·exact h.yz e0 od
  ·exact h.yz e h1
def yB(f:Int->Int):List nQ->Int
 |[]=>0
 |e::r=>f e.1+yB f r
def GX(f:Int->Int)(n:Nat):∀ A:List nQ,(A.map (·.1)).Nodup->(∀ e∈A,0<=e.1/\e.1<n)->yB f A=bf (λi=>if∃e∈A,e.1=(i:Int) then f i else 0) n
 |[],_,_=>by
  rw[ju (g:=λ_=>0) n (λi _=>Jd)];have:∀ n,bf (λ_=>0) n=0:=λn=>by induction n with|zero=>rfl|succ n ih=>rw[bf,ih];rfl
  rw[this];rfl
 |e::r,hn,hr=>by
  rw[dJ,List.nodup_cons]at hn;rw[yB,GX f n r hn.2 λx hx=>hr x (by simp[hx])];have h0:=hr e Jd;have Z8:¬∃x∈r,x.1=((e.1.toNat:Nat):Int):=by
   rintro⟨x,hx,hh⟩;rw[pF h0.1]at hh;exact hn.1 (bZ.2 ⟨x,hx,hh⟩)
  have:=yw (λi=>if∃x∈r,x.1=(i:Int) then f i else 0) e.1.toNat (f e.1) n;rw[if_pos I6]at this;rw[Int.add_comm,<- this];refine ju n λi hi=>?_;by_cases h:i=e.1.toNat
  ·subst h;rw[if_pos rfl,if_neg Z8,if_pos ⟨e,Jd,I6⟩,pF h0.1];omega
  ·rw[if_neg h];have:(∃ x∈e::r,x.1=(i:Int))↔∃ x∈r,x.1=(i:Int):=by
    constructor
    ·rintro⟨x,hx,hh⟩;rcases b8.1 hx with rfl|hx
     ·omega
     ·exact⟨x,hx,hh⟩
    ·rintro⟨x,hx,hh⟩;exact⟨x,by simp[hx],hh⟩
   simp only[this]
def Q9:∀ A:List nQ,yB (λ_=>1) A=A.length
 |[]=>rfl
 |e::r=>by rw[yB,Q9 r,dz];omega
def GI.len{R:Nat}{dn:List Ld}{A:List nQ}{b0:Nat}{μ:Mem}(h:GI R dn A b0 μ):A.length<=R:=by
 have h1:=GX (λ_=>1) R A h.keys h.yz;rw[Q9]at h1;have h2:=GW (f:=λi=>if∃e∈A,e.1=(i:Int) then(1:Int) else 0) (B:=1) R λi _=>by split<;>omega
 omega
def GI.sum{dn:List Ld}{A:List nQ}{b0:Nat}{μ:Mem}{left:List (List Bool)}(h:GI left.length dn A b0 μ):yB (λc=>nO dn c (left.getD c.toNat [])) A=rh dn 0 left 0:=by
 rw[GX _ left.length A h.keys h.yz,yx,vN];refine ju _ λi _=>?_;simp only[eW,gA];by_cases hh :∃e∈A,e.1=(i:Int)
 ·rw[if_pos hh]
 ·rw[if_neg hh,Q4];intro x hx qU;obtain⟨e,he,tK⟩:=h.has x hx;exact hh ⟨e,he,tK.trans qU⟩
def GI.other{R:Nat}{dn:List Ld}{A:List nQ}{b0:Nat}{μ:Mem}(h:GI R dn A b0 μ){r:Nat}(g:Gh)(hr:∀ l,μ r≠some (.map l)):GI R dn A b0 (nF μ r g) :=
 ⟨by rw[uR _ _ (λe=>hr _ (e▸h.top))];exact h.top,λe he=>by rw[uR _ _ (λe2=>hr _ (e2▸h.sub e he))];exact h.sub e he,h.yy,h.inj,h.keys,h.val,h.has,h.yz⟩
end T

