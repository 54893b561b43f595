import Derived.Test.YtodilglobhifaaaGreatDoorX18
set_option linter.all false
set_option maxHeartbeats 0
set_option maxRecDepth 20000
open List renaming getD_eq_getElem?_getD→aw,getElem?_set_self→Hs,getElem?_eq_getElem→bc,getElem?_set_ne→dq,length_set→bt,mem_singleton→bm,mem_append→bj
open Go Go.Am
namespace T
abbrev SC:=Int×Int
def zy(s:SC)(cost times:Int):SC:=if cost=1099511627776 then(s.1+times,s.2) else(s.1,s.2+cost*times)
structure FP(m:ah)(plan:List Int):Prop where
 len:plan.length=m.cls.length
 get:∀ j,j<plan.length->iN m (j:Nat) (plan.getD j 0)=true
def FP.pm{m:ah}{plan:List Int}(h:FP m plan):PM m plan:=⟨h.len,λj hj=>.inr (h.get j hj)⟩
def SB(s:SC)(n:Nat):Prop:=0<=s.1/\s.1<=1048576*n/\0<=s.2/\s.2<=1099511627776*n
def SB.zero:SB (0,0) 0:=by unfold SB;decide
def SB.mono{s:SC}{n k:Nat}(h:SB s n)(hk:n<=k):SB s k:=by unfold SB at *;omega
def VZ(c:Int):Prop:=0<=c/\c<=1048576\/c=1099511627776
def V0{c t:Int}(hc:0<=c/\c<=1048576)(ht:0<=t/\t<=1048576):0<=c*t/\c*t<=1099511627776 :=
 ⟨Int.mul_nonneg hc.1 ht.1,Int.le_trans (Int.mul_le_mul hc.2 ht.2 ht.1 Ay) Ha⟩
def SB.add{s:SC}{n:Nat}(h:SB s n){c t:Int}(hc:VZ c)(ht:0<=t/\t<=1048576):SB (zy s c t) (n+1):=by
 unfold SB zy at *;split
 ·dsimp only;omega
 ·have:=V0 (hc.resolve_right (by assumption)) ht;dsimp only;omega
def PR:∀ (l:List Int) (i:Nat) (x:Int),i<l.length->gw (l.set i x)=gw l-l.getD i 0+x
 |[],i,x,h=>by simp at h
 |y::r,0,x,_=>by simp only[List.set_cons_zero,gw,List.getD_cons_zero];omega
 |y::r,i+1,x,h=>by
  have:=PR r i x (by simpa using h);simp only[List.set_cons_succ,gw,List.getD_cons_succ];omega
structure Rel(R:Int)(out:List Int)(s:SC)(n:Nat):Prop where
 ok:gG R out
 b0:0<=s.1
 c0:0<=s.2/\s.2<=1048576*n
 eq:s.1=0->gw out=s.2
 ff:0<s.1->1099511627776∈out
def Rel.mono{R:Int}{out:List Int}{s:SC}{n k:Nat}(h:Rel R out s n)(hk:n<=k):Rel R out s k :=
 ⟨h.ok,h.b0,by have:=h.c0;omega,h.eq,h.ff⟩
def Rel.add{R:Int}{out:List Int}{s:SC}{n k:Nat}(h:Rel R out s n){r d c t:Int}(hr:0<=r/\r<R)(ht:0<=t)(hc:(c=1099511627776/\d=if 0<t then 1099511627776 else 0)\/(c≠1099511627776/\d=c*t/\0<=d/\d<=1048576*k))(hb:n+k<1048576):
  Rel R (fA out r d) (zy s c t) (n+k):=by
 have eO:b9 d:=by
  unfold b9;rcases hc with⟨_,h⟩|⟨_,_,h1,h2⟩
  ·rw[h];split<;>omega
  ·omega
 have hlen:=h.ok.1;have hi:r.toNat<out.length:=Ay;have hg:=h.ok.get r.toNat;have eh:=aG (d:=(0:Int)) hi;have hs:=Ft h.ok.2 _ eh;have km:=PR out r.toNat (gX (out.getD r.toNat 0) d) hi;have iX:=h.c0;have Ch:=h.b0;have FI:gX (out.getD r.toNat 0) d∈fA out r d:=by
  unfold fA;have:(out.set r.toNat (gX (out.getD r.toNat 0) d)).getD r.toNat 0=gX (out.getD r.toNat 0) d:=by
   rw[aw,Hs hi];rfl
  have FJ:=aG (l:=out.set r.toNat (gX (out.getD r.toNat 0) d)) (i:=r.toNat) (d:=0) (by simpa using hi);rwa [this]at FJ
 have PS:1099511627776∈out->1099511627776∈fA out r d:=by
  intro hm;obtain⟨j,hj,PU⟩:=List.mem_iff_getElem.1 hm;by_cases PV:r.toNat=j
  ·subst PV;have:out.getD r.toNat 0=1099511627776:=by rw[aw,bc hj];exact PU
   rw[this]at FI;have e:gX 1099511627776 d=1099511627776:=by unfold b9 at eO;unfold gX;omega
   rwa [e]at FI
  ·have:(fA out r d).getD j 0=1099511627776:=by
    unfold fA;rw[aw,dq PV,bc hj];exact PU
   have FJ:=aG (l:=fA out r d) (i:=j) (d:=0) (by unfold fA;simpa using hj);rwa [this]at FJ
 unfold b9 at hg eO;rcases hc with⟨FK,hd⟩|⟨FK,hd,FL,hdk⟩
 ·unfold zy;rw[if_pos FK];refine⟨h.ok.add (by unfold b9;exact eO),aaa,aaa,λhz=>?_,λhz=>?_⟩
  ·dsimp only at hz ⊢;have:d=0:=by rw[hd,if_neg Ay]
   rw[<- h.eq Ay];unfold fA;rw[km];unfold gX;omega
  ·dsimp only at hz;by_cases zA:0<t
   ·have:gX (out.getD r.toNat 0) d=1099511627776:=by rw[hd,if_pos zA];unfold gX;omega
    rwa [this]at FI
   ·exact PS (h.ff Ay)
 ·unfold zy;rw[if_neg FK,<- hd];refine⟨h.ok.add (by unfold b9;exact eO),aaa,aaa,λhz=>?_,λhz=>?_⟩
  ·dsimp only at hz ⊢;have he:=h.eq hz;unfold fA;rw[km];unfold gX;omega
  ·exact PS (h.ff hz)
def qK(m:ah)(a x b y:Int)(p:Pr):Bool:=decide (p.fst=a/\p.snd=b/\nq m p x y=1099511627776)
def pD(m:ah)(a x b y:Int):Bool:=if b<a then m.ae.any (qK m b y a x) else m.ae.any (qK m a x b y)
structure CI(m:ah)(plan out mv:List Int):Prop where
 fp:FP m out
 nd:mv.Nodup
 rg:∀ x∈mv,0<=x/\x<out.length
 un:∀ y:Nat,y<out.length->¬ (y:Int)∈mv->out.getD y 0=plan.getD y 0
def FM:∀ {n:Nat} {l:List Int},l.Nodup->(∀ x∈l,0<=x/\x<n)->l.length<=n
 |0,l,h,hr=>by
  cases l with
  |nil=>simp
  |cons x r=>have:=hr x Dg;omega
 |n+1,l,h,hr=>by
  by_cases hm:(n:Int)∈l
  ·have h1:=List.length_erase_of_mem hm;have h2:=FM (n:=n) (h.erase (n:Int)) λx hx=>by
    have h3:=(List.Nodup.mem_erase_iff h).1 hx;have:=hr x h3.2;omega
   omega
  ·have:=FM (n:=n) h λx hx=>by
    have:=hr x hx;have:x≠n:=λe=>hm (e▸hx);omega
   omega
def CI.len{m:ah}{plan out mv:List Int}(h:CI m plan out mv):mv.length<=out.length:=FM h.nd h.rg
def CI.step{m:ah}{plan out mv:List Int}(h:CI m plan out mv){y:Nat}(hy:y<out.length)(hm:¬ (y:Int)∈mv){o:Int}(ho:iN m (y:Nat) o=true):CI m plan (out.set y o) (mv++[(y:Int)]):=by
 refine⟨?_,?_,?_,?_⟩
 ·refine⟨by rw[bt];exact h.fp.len,λj hj=>?_⟩;rw[bt]at hj;by_cases e:y=j
  ·subst e;rw[aw,Hs hj];exact ho
  ·rw[aw,dq e,<- aw];exact h.fp.get j hj
 ·rw[List.nodup_append];refine⟨h.nd,Dg,λa ha b hb=>?_⟩;rw[bm]at hb;subst hb;intro e;subst e;exact hm ha
 ·intro x hx;rw[bt];rcases bj.1 hx with hx|hx
  ·exact h.rg x hx
  ·rw[bm.1 hx];omega
 ·intro j hj hn;rw[bt]at hj;rw[bj,not_or,bm]at hn;rw[aw,dq Ay,<- aw];exact h.un j hj hn.1
def CI.start{m:ah}{plan:List Int}(hp:FP m plan){c:Nat}{o:Int}(ho:iN m (c:Nat) o=true):CI m plan (plan.set c o) [(c:Int)]:=by
 have hc:c<plan.length:=by have:=qA.1 ho;have:=hp.len;omega
 have h0:CI m plan plan []:=⟨hp,Dg,Dg,λ_ _ _=>rfl⟩;exact h0.step hc Dg ho
end T

