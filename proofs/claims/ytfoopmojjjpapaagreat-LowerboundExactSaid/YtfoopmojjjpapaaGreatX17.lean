import Derived.Test.YtfoopmojjjpapaaGreatX10
set_option linter.all false
set_option maxHeartbeats 0
set_option maxRecDepth 20000
open List renaming getD_cons_zero→iv,length_cons→cX,getD_cons_succ→fq,getD_eq_getElem?_getD→ax,getElem?_eq_getElem→bq,getElem?_set_ne→fD,length_set→bw,mem_singleton→c8,mem_append→cT
open Bool renaming and_eq_true→bg
open Go Go.Am
namespace T
abbrev SC:=Int×Int
def D2(s:SC)(cost times:Int):SC:=if cost=1099511627776 then(s.1+times,s.2) else(s.1,s.2+cost*times)
structure FP(m:ah)(plan:List Int):Prop where
 len:plan.length=m.cls.length
 get:∀ j,j<plan.length->jq m (j:Nat) (plan.getD j 0)=true
def SB(s:SC)(n:Nat):Prop:=0<=s.1/\s.1<=1048576*n/\0<=s.2/\s.2<=1099511627776*n
def SB.zero:SB (0,0) 0:=by unfold SB;decide
def SB.mono{s:SC}{n k:Nat}(h:SB s n)(hk:n<=k):SB s k:=by unfold SB at *;omega
def af6(c:Int):Prop:=0<=c/\c<=1048576\/c=1099511627776
def af7{c t:Int}(hc:0<=c/\c<=1048576)(ht:0<=t/\t<=1048576):0<=c*t/\c*t<=1099511627776 :=
 ⟨Int.mul_nonneg hc.1 ht.1,Int.le_trans (Int.mul_le_mul hc.2 ht.2 ht.1 AT) IP⟩
def SB.add{s:SC}{n:Nat}(h:SB s n){c t:Int}(hc:af6 c)(ht:0<=t/\t<=1048576):SB (D2 s c t) (n+1):=by
 unfold SB D2 at *;split
 ·dsimp only;omega
 ·have:=af7 (hc.resolve_right (by assumption)) ht;dsimp only;omega
def uy:List Ld->Int->Int->Int
 |[],_,_=>0
 |x::r,i,o=>if x.cls=i/\x.opt=o then x.wt else uy r i o
def td(l:List Ld):Nat->List Int->Int
 |_,[]=>0
 |i,o::r=>uy l i o+td l (i+1) r
def UR:∀ (plan:List Int) (i:Nat),td [] i plan=0
 |[],_=>rfl
 |o::r,i=>by rw[td,uy,UR r];rfl
def US(x:Ld)(l:List Ld):∀ (plan:List Int) (i:Nat),td (x::l) i plan=td l i plan+if(i:Int)<=x.cls/\x.cls<i+plan.length/\plan.getD (x.cls-i).toNat 0=x.opt then x.wt-uy l x.cls x.opt else 0
 |[],i=>by rw[td,td,if_neg N0];rfl
 |o::r,i=>by
  rw[td,td,US x l r (i+1),uy];by_cases h:x.cls=i
  ·rw[if_neg (c:=((i+1:Nat):Int)<=x.cls/\_) AT];rw[show(x.cls-i).toNat=0 by omega,iv,cX];by_cases ho:x.opt=o
   ·rw[if_pos ⟨h,ho⟩,if_pos ⟨AT,AT,ho.symm⟩,h,ho];omega
   ·rw[if_neg (λh'=>ho h'.2),if_neg (λh'=>ho h'.2.2.symm)];omega
  ·rw[if_neg (c:=x.cls=i/\x.opt=o) (λh'=>h h'.1)];have e:((i+1:Nat):Int)<=x.cls/\x.cls<(i+1:Nat)+r.length/\r.getD (x.cls-(i+1:Nat)).toNat 0=x.opt↔(i:Int)<=x.cls/\x.cls<i+(o::r).length/\(o::r).getD (x.cls-i).toNat 0=x.opt:=by
    rw[cX];by_cases aS:(i:Int)<x.cls
    ·rw[show(x.cls-i).toNat=(x.cls-(i+1:Nat)).toNat+1 by omega,fq];constructor
     ·rintro⟨a,b,c⟩;exact⟨AT,AT,c⟩
     ·rintro⟨a,b,c⟩;exact⟨AT,AT,c⟩
    ·constructor
     ·rintro⟨a,b,c⟩;omega
     ·rintro⟨a,b,c⟩;omega
   simp only[e];omega
def UT:∀ (l:List Ld) (i o:Int),(∀ y∈l,¬ (y.cls=i/\y.opt=o))->uy l i o=0
 |[],_,_,_=>rfl
 |x::r,i,o,h=>by rw[uy,if_neg (h x IM),UT r i o λy hy=>h y (by simp[hy])]
def yo{m:ah}:∀ {l:List Ld} {q:Ld},eu m (some q) l=true->∀ y∈l,q.cls<y.cls\/(q.cls=y.cls/\q.opt<y.opt)
 |[],_,_,y,hy=>by simp at hy
 |x::r,q,h,y,hy=>by
  rw[eu]at h;simp only[bg,decide_eq_true_eq]at h;have h1:=G9.1 h.1.2;rcases List.mem_cons.1 hy with rfl|hy
  ·exact h1
  ·have:=yo h.2 y hy;omega
def Sk{m:ah}{plan:List Int}(hp:plan.length=m.cls.length):∀ {l:List Ld} {q:Option Ld} (n:Int),eu m q l=true->wZ plan l n=n+td l 0 plan
 |[],_,n,_=>by rw[wZ,UR];omega
 |x::r,q,n,h=>by
  have hr:eu m (some x) r=true:=by
   rw[eu.eq_def]at h;simp only[bg]at h;exact h.2
  have hx:=(uA h x IM).1;obtain⟨a,b,c,d⟩:=iN.1 hx;rw[wZ,Sk hp _ hr,US,UT r x.cls x.opt (λy hy he=>by have:=yo hr y hy;omega)];rw[show(x.cls-((0:Nat):Int)).toNat=x.cls.toNat by simp];by_cases e:plan.getD x.cls.toNat 0=x.opt
  ·rw[if_pos e,if_pos ⟨AT,AT,e⟩];omega
  ·rw[if_neg e,if_neg (λh'=>e h'.2.2)];omega
def UU:∀ (l:List Int) (i:Nat) (x:Int),i<l.length->j9 (l.set i x)=j9 l-l.getD i 0+x
 |[],i,x,h=>by simp at h
 |y::r,0,x,_=>by simp only[List.set_cons_zero,j9,iv];omega
 |y::r,i+1,x,h=>by
  have:=UU r i x (by simpa using h);simp only[List.set_cons_succ,j9,fq];omega
structure Rel(R:Int)(out:List Int)(s:SC)(n:Nat):Prop where
 ok:lq R out
 b0:0<=s.1
 c0:0<=s.2/\s.2<=1048576*n
 eq:s.1=0->j9 out=s.2
 ff:0<s.1->1099511627776∈out
def Rel.mono{R:Int}{out:List Int}{s:SC}{n k:Nat}(h:Rel R out s n)(hk:n<=k):Rel R out s k :=
 ⟨h.ok,h.b0,by have:=h.c0;omega,h.eq,h.ff⟩
def Rel.add{R:Int}{out:List Int}{s:SC}{n k:Nat}(h:Rel R out s n){r d c t:Int}(hr:0<=r/\r<R)(ht:0<=t)(hc:(c=1099511627776/\d=if 0<t then 1099511627776 else 0)\/(c≠1099511627776/\d=c*t/\0<=d/\d<=1048576*k))(hb:n+k<1048576):
  Rel R (iq out r d) (D2 s c t) (n+k):=by
 have bR:bJ d:=by
  unfold bJ;rcases hc with⟨_,h⟩|⟨_,_,h1,h2⟩
  ·rw[h];split<;>omega
  ·omega
 have hlen:=h.ok.1;have hi:r.toNat<out.length:=AT;have hg:=h.ok.get r.toNat;have cq:=aE (d:=(0:Int)) hi;have hs:=KX h.ok.2 _ cq;have gQ:=UU out r.toNat (dW (out.getD r.toNat 0) d) hi;have mj:=h.c0;have pG:=h.b0;have Ln:dW (out.getD r.toNat 0) d∈iq out r d:=by
  unfold iq;have:(out.set r.toNat (dW (out.getD r.toNat 0) d)).getD r.toNat 0=dW (out.getD r.toNat 0) d:=by
   rw[ax,List.getElem?_set_self hi];rfl
  have qT:=aE (l:=out.set r.toNat (dW (out.getD r.toNat 0) d)) (i:=r.toNat) (d:=0) (by simpa using hi);rwa [this]at qT
 have UW:1099511627776∈out->1099511627776∈iq out r d:=by
  intro hm;obtain⟨j,hj,UX⟩:=List.mem_iff_getElem.1 hm;by_cases UY:r.toNat=j
  ·subst UY;have:out.getD r.toNat 0=1099511627776:=by rw[ax,bq hj];exact UX
   rw[this]at Ln;have e:dW 1099511627776 d=1099511627776:=by unfold bJ at bR;unfold dW;omega
   rwa [e]at Ln
  ·have:(iq out r d).getD j 0=1099511627776:=by
    unfold iq;rw[ax,fD UY,bq hj];exact UX
   have qT:=aE (l:=iq out r d) (i:=j) (d:=0) (by unfold iq;simpa using hj);rwa [this]at qT
 unfold bJ at hg bR;rcases hc with⟨Lo,hd⟩|⟨Lo,hd,hd0,hdk⟩
 ·unfold D2;rw[if_pos Lo];refine⟨h.ok.add (by unfold bJ;exact bR),NZ,NZ,λhz=>?_,λhz=>?_⟩
  ·dsimp only at hz ⊢;have:d=0:=by rw[hd,if_neg AT]
   rw[<- h.eq AT];unfold iq;rw[gQ];unfold dW;omega
  ·dsimp only at hz;by_cases htz:0<t
   ·have:dW (out.getD r.toNat 0) d=1099511627776:=by rw[hd,if_pos htz];unfold dW;omega
    rwa [this]at Ln
   ·exact UW (h.ff AT)
 ·unfold D2;rw[if_neg Lo,<- hd];refine⟨h.ok.add (by unfold bJ;exact bR),NZ,NZ,λhz=>?_,λhz=>?_⟩
  ·dsimp only at hz ⊢;have he:=h.eq hz;unfold iq;rw[gQ];unfold dW;omega
  ·exact UW (h.ff hz)
def uG(m:ah)(a x b y:Int)(p:Pr):Bool:=decide (p.fst=a/\p.snd=b/\zX m p x y=1099511627776)
def uB(m:ah)(a x b y:Int):Bool:=if b<a then m.ae.any (uG m b y a x) else m.ae.any (uG m a x b y)
def af9{m:ah}{a x b y:Int}(h:a≠b):uB m a x b y=uB m b y a x:=by
 unfold uB;by_cases h1:b<a
 ·rw[if_pos h1,if_neg AT]
 ·rw[if_neg h1,if_pos AT]
structure CI(m:ah)(plan out mv:List Int):Prop where
 fp:FP m out
 nd:mv.Nodup
 rg:∀ x∈mv,0<=x/\x<out.length
 un:∀ y:Nat,y<out.length->¬ (y:Int)∈mv->out.getD y 0=plan.getD y 0
def Lp:∀ {n:Nat} {l:List Int},l.Nodup->(∀ x∈l,0<=x/\x<n)->l.length<=n
 |0,l,h,hr=>by
  cases l with
  |nil=>simp
  |cons x r=>have:=hr x IM;omega
 |n+1,l,h,hr=>by
  by_cases hm:(n:Int)∈l
  ·have h1:=List.length_erase_of_mem hm;have h2:=Lp (n:=n) (h.erase (n:Int)) λx hx=>by
    have h3:=(List.Nodup.mem_erase_iff h).1 hx;have:=hr x h3.2;omega
   omega
  ·have:=Lp (n:=n) h λx hx=>by
    have:=hr x hx;have:x≠n:=λe=>hm (e▸hx);omega
   omega
def CI.len{m:ah}{plan out mv:List Int}(h:CI m plan out mv):mv.length<=out.length:=Lp h.nd h.rg
def CI.step{m:ah}{plan out mv:List Int}(h:CI m plan out mv){y:Nat}(hy:y<out.length)(hm:¬ (y:Int)∈mv){o:Int}(ho:jq m (y:Nat) o=true):CI m plan (out.set y o) (mv++[(y:Int)]):=by
 refine⟨?_,?_,?_,?_⟩
 ·refine⟨by rw[bw];exact h.fp.len,λj hj=>?_⟩;rw[bw]at hj;by_cases e:y=j
  ·subst e;rw[ax,List.getElem?_set_self hj];exact ho
  ·rw[ax,fD e,<- ax];exact h.fp.get j hj
 ·rw[List.nodup_append];refine⟨h.nd,IM,λa ha b hb=>?_⟩;rw[c8]at hb;subst hb;intro e;subst e;exact hm ha
 ·intro x hx;rw[bw];rcases cT.1 hx with hx|hx
  ·exact h.rg x hx
  ·rw[c8.1 hx];omega
 ·intro j hj hn;rw[bw]at hj;rw[cT,not_or,c8]at hn;rw[ax,fD AT,<- ax];exact h.un j hj hn.1
def CI.start{m:ah}{plan:List Int}(hp:FP m plan){c:Nat}{o:Int}(ho:jq m (c:Nat) o=true):CI m plan (plan.set c o) [(c:Int)]:=by
 have hc:c<plan.length:=by have:=iN.1 ho;have:=hp.len;omega
 have h0:CI m plan plan []:=⟨hp,IM,IM,λ_ _ _=>rfl⟩;exact h0.step hc IM ho
end T

