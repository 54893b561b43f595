import Derived.Test.YtfoopmojjjpapaaGreatX11
set_option linter.all false
set_option maxHeartbeats 0
set_option maxRecDepth 20000
open List renaming getD_cons_zero→ik,length_cons→dq,getD_cons_succ→e7,getD_eq_getElem?_getD→az,getElem?_eq_getElem→bF,getElem?_set_ne→gA,length_set→bJ,mem_singleton→cV,mem_append→cG
open Bool renaming and_eq_true→bb
open Go Go.Am
namespace T
abbrev SC:=Int×Int
def Fj(s:SC)(cost times:Int):SC:=if cost=1099511627776 then(s.1+times,s.2) else(s.1,s.2+cost*times)
structure FP(m:ah)(plan:List Int):Prop where
 len:plan.length=m.cls.length
 get:∀ j,j<plan.length->hZ m (j:Nat) (plan.getD j 0)=true
def SB(s:SC)(n:Nat):Prop:=0<=s.1/\s.1<=1048576*n/\0<=s.2/\s.2<=1099511627776*n
def SB.zero:SB (0,0) 0:=by unfold SB;decide
def SB.mono{s:SC}{n k:Nat}(h:SB s n)(hk:n<=k):SB s k:=by unfold SB at *;omega
def air(c:Int):Prop:=0<=c/\c<=1048576\/c=1099511627776
def ais{c t:Int}(hc:0<=c/\c<=1048576)(ht:0<=t/\t<=1048576):0<=c*t/\c*t<=1099511627776 :=
 ⟨Int.mul_nonneg hc.1 ht.1,Int.le_trans (Int.mul_le_mul hc.2 ht.2 ht.1 GK) GS⟩
def SB.add{s:SC}{n:Nat}(h:SB s n){c t:Int}(hc:air c)(ht:0<=t/\t<=1048576):SB (Fj s c t) (n+1):=by
 unfold SB Fj at *;split
 ·dsimp only;omega
 ·have:=ais (hc.resolve_right (by assumption)) ht;dsimp only;omega
def vI:List Ld->Int->Int->Int
 |[],_,_=>0
 |x::r,i,o=>if x.cls=i/\x.opt=o then x.wt else vI r i o
def uy(l:List Ld):Nat->List Int->Int
 |_,[]=>0
 |i,o::r=>vI l i o+uy l (i+1) r
def XW:∀ (plan:List Int) (i:Nat),uy [] i plan=0
 |[],_=>rfl
 |o::r,i=>by rw[uy,vI,XW r];rfl
def XX(x:Ld)(l:List Ld):∀ (plan:List Int) (i:Nat),uy (x::l) i plan=uy l i plan+if(i:Int)<=x.cls/\x.cls<i+plan.length/\plan.getD (x.cls-i).toNat 0=x.opt then x.wt-vI l x.cls x.opt else 0
 |[],i=>by rw[uy,uy,if_neg P2];rfl
 |o::r,i=>by
  rw[uy,uy,XX x l r (i+1),vI];by_cases h:x.cls=i
  ·rw[if_neg (c:=((i+1:Nat):Int)<=x.cls/\_) GK];rw[show(x.cls-i).toNat=0 by omega,ik,dq];by_cases ho:x.opt=o
   ·rw[if_pos ⟨h,ho⟩,if_pos ⟨GK,GK,ho.symm⟩,h,ho];omega
   ·rw[if_neg (λh'=>ho h'.2),if_neg (λh'=>ho h'.2.2.symm)];omega
  ·rw[if_neg (c:=x.cls=i/\x.opt=o) (λh'=>h h'.1)];have e:((i+1:Nat):Int)<=x.cls/\x.cls<(i+1:Nat)+r.length/\r.getD (x.cls-(i+1:Nat)).toNat 0=x.opt↔(i:Int)<=x.cls/\x.cls<i+(o::r).length/\(o::r).getD (x.cls-i).toNat 0=x.opt:=by
    rw[dq];by_cases aX:(i:Int)<x.cls
    ·rw[show(x.cls-i).toNat=(x.cls-(i+1:Nat)).toNat+1 by omega,e7];constructor
     ·rintro⟨a,b,c⟩;exact⟨GK,GK,c⟩
     ·rintro⟨a,b,c⟩;exact⟨GK,GK,c⟩
    ·constructor
     ·rintro⟨a,b,c⟩;omega
     ·rintro⟨a,b,c⟩;omega
   simp only[e];omega
def XZ:∀ (l:List Ld) (i o:Int),(∀ y∈l,¬ (y.cls=i/\y.opt=o))->vI l i o=0
 |[],_,_,_=>rfl
 |x::r,i,o,h=>by rw[vI,if_neg (h x GM),XZ r i o λy hy=>h y (by simp[hy])]
def zI{m:ah}:∀ {l:List Ld} {q:Ld},eO m (some q) l=true->∀ y∈l,q.cls<y.cls\/(q.cls=y.cls/\q.opt<y.opt)
 |[],_,_,y,hy=>by simp at hy
 |x::r,q,h,y,hy=>by
  rw[eO]at h;simp only[bb,decide_eq_true_eq]at h;have h1:=Ix.1 h.1.2;rcases List.mem_cons.1 hy with rfl|hy
  ·exact h1
  ·have:=zI h.2 y hy;omega
def T3{m:ah}{plan:List Int}(hp:plan.length=m.cls.length):∀ {l:List Ld} {q:Option Ld} (n:Int),eO m q l=true->zN plan l n=n+uy l 0 plan
 |[],_,n,_=>by rw[zN,XW];omega
 |x::r,q,n,h=>by
  have hr:eO m (some x) r=true:=by
   rw[eO.eq_def]at h;simp only[bb]at h;exact h.2
  have hx:=(w5 h x GM).1;obtain⟨a,b,c,d⟩:=jN.1 hx;rw[zN,T3 hp _ hr,XX,XZ r x.cls x.opt (λy hy he=>by have:=zI hr y hy;omega)];rw[show(x.cls-((0:Nat):Int)).toNat=x.cls.toNat by simp];by_cases e:plan.getD x.cls.toNat 0=x.opt
  ·rw[if_pos e,if_pos ⟨GK,GK,e⟩];omega
  ·rw[if_neg e,if_neg (λh'=>e h'.2.2)];omega
def X1:∀ (l:List Int) (i:Nat) (x:Int),i<l.length->kM (l.set i x)=kM l-l.getD i 0+x
 |[],i,x,h=>by simp at h
 |y::r,0,x,_=>by simp only[List.set_cons_zero,kM,ik];omega
 |y::r,i+1,x,h=>by
  have:=X1 r i x (by simpa using h);simp only[List.set_cons_succ,kM,e7];omega
structure Rel(R:Int)(out:List Int)(s:SC)(n:Nat):Prop where
 ok:mj R out
 b0:0<=s.1
 c0:0<=s.2/\s.2<=1048576*n
 eq:s.1=0->kM out=s.2
 ff:0<s.1->1099511627776∈out
def Rel.mono{R:Int}{out:List Int}{s:SC}{n k:Nat}(h:Rel R out s n)(hk:n<=k):Rel R out s k :=
 ⟨h.ok,h.b0,by have:=h.c0;omega,h.eq,h.ff⟩
def Rel.add{R:Int}{out:List Int}{s:SC}{n k:Nat}(h:Rel R out s n){r d c t:Int}(hr:0<=r/\r<R)(ht:0<=t)(hc:(c=1099511627776/\d=if 0<t then 1099511627776 else 0)\/(c≠1099511627776/\d=c*t/\0<=d/\d<=1048576*k))(hb:n+k<1048576):
  Rel R (iJ out r d) (Fj s c t) (n+k):=by
 have eJ:bT d:=by
  unfold bT;rcases hc with⟨_,h⟩|⟨_,_,h1,h2⟩
  ·rw[h];split<;>omega
  ·omega
 have hlen:=h.ok.1;have hi:r.toNat<out.length:=GK;have hg:=h.ok.get r.toNat;have bR:=aF (d:=(0:Int)) hi;have hs:=MH h.ok.2 _ bR;have jZ:=X1 out r.toNat (eB (out.getD r.toNat 0) d) hi;have mM:=h.c0;have lL:=h.b0;have Na:eB (out.getD r.toNat 0) d∈iJ out r d:=by
  unfold iJ;have:(out.set r.toNat (eB (out.getD r.toNat 0) d)).getD r.toNat 0=eB (out.getD r.toNat 0) d:=by
   rw[az,List.getElem?_set_self hi];rfl
  have rP:=aF (l:=out.set r.toNat (eB (out.getD r.toNat 0) d)) (i:=r.toNat) (d:=0) (by simpa using hi);rwa [this]at rP
 have X6:1099511627776∈out->1099511627776∈iJ out r d:=by
  intro hm;obtain⟨j,hj,X7⟩:=List.mem_iff_getElem.1 hm;by_cases X8:r.toNat=j
  ·subst X8;have:out.getD r.toNat 0=1099511627776:=by rw[az,bF hj];exact X7
   rw[this]at Na;have e:eB 1099511627776 d=1099511627776:=by unfold bT at eJ;unfold eB;omega
   rwa [e]at Na
  ·have:(iJ out r d).getD j 0=1099511627776:=by
    unfold iJ;rw[az,gA X8,bF hj];exact X7
   have rP:=aF (l:=iJ out r d) (i:=j) (d:=0) (by unfold iJ;simpa using hj);rwa [this]at rP
 unfold bT at hg eJ;rcases hc with⟨Nb,hd⟩|⟨Nb,hd,hd0,hdk⟩
 ·unfold Fj;rw[if_pos Nb];refine⟨h.ok.add (by unfold bT;exact eJ),PW,PW,λhz=>?_,λhz=>?_⟩
  ·dsimp only at hz ⊢;have:d=0:=by rw[hd,if_neg GK]
   rw[<- h.eq GK];unfold iJ;rw[jZ];unfold eB;omega
  ·dsimp only at hz;by_cases htz:0<t
   ·have:eB (out.getD r.toNat 0) d=1099511627776:=by rw[hd,if_pos htz];unfold eB;omega
    rwa [this]at Na
   ·exact X6 (h.ff GK)
 ·unfold Fj;rw[if_neg Nb,<- hd];refine⟨h.ok.add (by unfold bT;exact eJ),PW,PW,λhz=>?_,λhz=>?_⟩
  ·dsimp only at hz ⊢;have he:=h.eq hz;unfold iJ;rw[jZ];unfold eB;omega
  ·exact X6 (h.ff hz)
def oX(m:ah)(a x b y:Int)(p:Pr):Bool:=decide (p.fst=a/\p.snd=b/\yq m p x y=1099511627776)
def s6(m:ah)(a x b y:Int):Bool:=if b<a then m.ae.any (oX m b y a x) else m.ae.any (oX m a x b y)
def aiu{m:ah}{a x b y:Int}(h:a≠b):s6 m a x b y=s6 m b y a x:=by
 unfold s6;by_cases h1:b<a
 ·rw[if_pos h1,if_neg GK]
 ·rw[if_neg h1,if_pos GK]
structure CI(m:ah)(plan out mv:List Int):Prop where
 fp:FP m out
 nd:mv.Nodup
 rg:∀ x∈mv,0<=x/\x<out.length
 un:∀ y:Nat,y<out.length->¬ (y:Int)∈mv->out.getD y 0=plan.getD y 0
def Nc:∀ {n:Nat} {l:List Int},l.Nodup->(∀ x∈l,0<=x/\x<n)->l.length<=n
 |0,l,h,hr=>by
  cases l with
  |nil=>simp
  |cons x r=>have:=hr x GM;omega
 |n+1,l,h,hr=>by
  by_cases hm:(n:Int)∈l
  ·have h1:=List.length_erase_of_mem hm;have h2:=Nc (n:=n) (h.erase (n:Int)) λx hx=>by
    have h3:=(List.Nodup.mem_erase_iff h).1 hx;have:=hr x h3.2;omega
   omega
  ·have:=Nc (n:=n) h λx hx=>by
    have:=hr x hx;have:x≠n:=λe=>hm (e▸hx);omega
   omega
def CI.len{m:ah}{plan out mv:List Int}(h:CI m plan out mv):mv.length<=out.length:=Nc h.nd h.rg
def CI.step{m:ah}{plan out mv:List Int}(h:CI m plan out mv){y:Nat}(hy:y<out.length)(hm:¬ (y:Int)∈mv){o:Int}(ho:hZ m (y:Nat) o=true):CI m plan (out.set y o) (mv++[(y:Int)]):=by
 refine⟨?_,?_,?_,?_⟩
 ·refine⟨by rw[bJ];exact h.fp.len,λj hj=>?_⟩;rw[bJ]at hj;by_cases e:y=j
  ·subst e;rw[az,List.getElem?_set_self hj];exact ho
  ·rw[az,gA e,<- az];exact h.fp.get j hj
 ·rw[List.nodup_append];refine⟨h.nd,GM,λa ha b hb=>?_⟩;rw[cV]at hb;subst hb;intro e;subst e;exact hm ha
 ·intro x hx;rw[bJ];rcases cG.1 hx with hx|hx
  ·exact h.rg x hx
  ·rw[cV.1 hx];omega
 ·intro j hj hn;rw[bJ]at hj;rw[cG,not_or,cV]at hn;rw[az,gA GK,<- az];exact h.un j hj hn.1
def CI.start{m:ah}{plan:List Int}(hp:FP m plan){c:Nat}{o:Int}(ho:hZ m (c:Nat) o=true):CI m plan (plan.set c o) [(c:Int)]:=by
 have hc:c<plan.length:=by have:=jN.1 ho;have:=hp.len;omega
 have h0:CI m plan plan []:=⟨hp,GM,GM,λ_ _ _=>rfl⟩;exact h0.step hc GM ho
end T

