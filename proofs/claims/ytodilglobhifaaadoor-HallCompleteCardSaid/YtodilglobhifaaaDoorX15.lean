import Derived.Test.YtodilglobhifaaaDoorX10
set_option linter.all false
set_option maxHeartbeats 0
set_option maxRecDepth 20000
open List renaming nil_append→g9,cons_append→kR,mem_append→bn,mem_singleton→bB,getD_eq_getElem?_getD→an,getElem?_eq_none→gI,getElem?_set_self→Ee,getElem?_eq_getElem→aN,getElem?_set_ne→cV,length_set→bm
open Bool renaming and_eq_true→bb
open Option renaming some→cB
open Int renaming mul_le_mul→Ah
open Nat renaming lt_or_ge→cZ
open Go Go.Am
namespace T
def Kj{m:ae}{c:Pr}:∀ {l:List Pr} {q:Option Pr},fC m q l=true->eP m c=true->(∀ x∈l,lY x c<0)->(∀ y,q=some y->lY y c<0)->fC m q (l++[c])=true
 |[],q,_,h1,_,h3=>by
  rw[g9,fC.eq_def];cases q with
  |none=>simp[h1,fC]
  |some y=>simp[h1,fC,h3 y rfl]
 |x::r,q,h,h1,h3,h4=>by
  rw[fC.eq_def]at h;simp only[bb]at h;rw[kR,fC.eq_def];simp only[bb];exact⟨h.1,Kj h.2 h1 (λy hy=>h3 y (by simp[hy])) (λy hy=>by simp only[cB.injEq]at hy;subst hy;exact h3 _ Eb)⟩
def Kk{m:ae}{c:Ld}:∀ {l:List Ld} {q:Option Ld},fO m q l=true->gn m c.cls c.opt=true->(1<=c.wt/\c.wt<=1000)->(∀ x∈l,mQ x c<0)->(∀ y,q=some y->mQ y c<0)->fO m q (l++[c])=true
 |[],q,_,h1,h2,_,h3=>by
  rw[g9,fO.eq_def];cases q with
  |none=>simp[h1,h2,fO]
  |some y=>simp[h1,h2,fO,h3 y rfl]
 |x::r,q,h,h1,h2,h3,h4=>by
  rw[fO.eq_def]at h;simp only[bb]at h;rw[kR,fO.eq_def];simp only[bb];exact⟨h.1,Kk h.2 h1 h2 (λy hy=>h3 y (by simp[hy])) (λy hy=>by simp only[cB.injEq]at hy;subst hy;exact h3 _ Eb)⟩
def Kl{cls:List (List cD)}{R:Int}{a b:List Pr}{c d:List Ct}:∀ (l:List Pr) (q:Option Pr),fC ⟨cls,a,c,R⟩ q l=fC ⟨cls,b,d,R⟩ q l
 |[],_=>rfl
 |x::r,q=>by
  have:=Kl (cls:=cls) (R:=R) (a:=a) (b:=b) (c:=c) (d:=d) r (some x);cases q<;>simp only[fC,this]<;>rfl
structure MM(m:ae)(Qn options:Nat):Prop where
 vm:VM m
 qq:m.cls.length<=Qn
 some:∀ l∈m.cls,1<=l.length/\l.length<=options
 qd:1<=m.rules/\m.rules<=4
 cz:m.cz.length<=2
 wk:∀ l∈m.cls,∀ o∈l,o.wk<=3
def VM.mb{m:ae}(h:VM m):MB m:=by
 refine⟨by have:=h.cls;omega,λl hl=>by have:=h.opt l hl;omega,λl hl o ho=>?_,by have:=h.aj;omega,λp hp=>?_,by have:=h.cz;omega,λc hc=>?_⟩
 ·have:=PE h.qd.1 (h.rO l hl o ho);have:=h.qd;omega
 ·obtain⟨_,h1,h2,h3,h4⟩:=vA (mS h.pr p hp);have a:=h.opt _ (aO (l:=m.cls) (i:=p.fst.toNat) (d:=default) z8);have b:=h.opt _ (aO (l:=m.cls) (i:=p.snd.toNat) (d:=default) z8);have:((m.cls.getD p.fst.toNat default).length:Int)*(m.cls.getD p.snd.toNat default).length<=24*24:=Ah z8 z8 z8 z8;omega
 ·have:=PG h (vB (h.ct c hc)).2.2.2;omega
def v3(p:Pr)(u i k:Nat):Prop:=p.cM<u\/(p.cM=u/\(p.fst<i\/(p.fst=i/\p.snd<k)))
structure sc(cls:List (List cD))(R:Int)(aj:List Pr)(u i k:Nat):Prop where
 ok:fC ⟨cls,[],[],R⟩ none aj=true
 lt:∀ p∈aj,v3 p u i k
 len:aj.length<=576*u+24*i+k
def sc.mono{cls:List (List cD)}{R:Int}{aj:List Pr}{u i k u' i' k':Nat}(h:sc cls R aj u i k)(hl:u<u'\/(u=u'/\(i<i'\/(i=i'/\k<=k'))))(hs:576*u+24*i+k<=576*u'+24*i'+k'):sc cls R aj u' i' k' :=
 ⟨h.ok,λp hp=>by have:=h.lt p hp;unfold v3 at *;omega,by have:=h.len;omega⟩
def sc.app{cls:List (List cD)}{R:Int}{aj:List Pr}{u i k:Nat}(h:sc cls R aj u i k){dw:List Int}(hp:eP ⟨cls,[],[],R⟩ ⟨i,k,u,dw⟩=true):sc cls R (aj++[⟨i,k,u,dw⟩]) u i (k+1):=by
 refine⟨Kj h.ok hp (λx hx=>?_) Eb,λp hp=>?_,by have:=h.len;simp;omega⟩
 ·have:=h.lt x hx;rw[Jp];unfold v3 at this;dsimp only;omega
 ·rcases bn.1 hp with hp|hp
  ·have:=h.lt p hp;unfold v3 at *;omega
  ·simp only[bB]at hp;subst hp;unfold v3;dsimp only;omega
structure tV(cls:List (List cD))(R:Int)(l:List Ld)(i k:Nat):Prop where
 ok:fO ⟨cls,[],[],R⟩ none l=true
 lt:∀ x∈l,x.cls<i\/(x.cls=i/\x.opt<k)
 len:l.length<=24*i+k
def tV.mono{cls:List (List cD)}{R:Int}{l:List Ld}{i k i' k':Nat}(h:tV cls R l i k)(hl:i<i'\/(i=i'/\k<=k'))(hs:24*i+k<=24*i'+k'):tV cls R l i' k' :=
 ⟨h.ok,λp hp=>by have:=h.lt p hp;omega,by have:=h.len;omega⟩
def tV.app{cls:List (List cD)}{R:Int}{l:List Ld}{i k:Nat}(h:tV cls R l i k){w:Int}(hi:i<cls.length)(hk:k<(cls.getD i default).length)(hw:1<=w/\w<=1000):tV cls R (l++[⟨i,k,w⟩]) i (k+1):=by
 refine⟨Kk h.ok (nQ.2 ⟨UT,UT,UT,by simp;exact hk⟩) hw (λx hx=>?_) Eb,λp hp=>?_,by have:=h.len;simp;omega⟩
 ·have:=h.lt x hx;rw[BZ];dsimp only;omega
 ·rcases bn.1 hp with hp|hp
  ·have:=h.lt p hp;omega
  ·simp only[bB]at hp;subst hp;dsimp only;omega
def yZ:(default:cD).ch=[]:=rfl
def y7{m:ae}(hm:VM m):∀ (plan:List Int) (i:Nat) (out:List Int),fi m.rules out->fi m.rules (lk m i plan out)
 |[],_,_,h=>h
 |o::r,i,out,h=>by
  rw[lk];refine y7 hm r (i+1) _ ?_;split
  ·exact h
  ·refine Js h λc hc=>?_;rcases cZ i m.cls.length with hi|hi
   ·have hl:=aO (d:=(default:List cD)) hi;generalize m.cls.getD i default=l at *;rcases cZ o.toNat l.length with ho|ho
    ·exact(vy (hm.rO l hl _ (aO ho)) c hc).2
    ·rw[show l.getD o.toNat default=default by rw[an,gI ho];rfl]at hc;exact absurd hc (by rw[yZ];simp)
   ·rw[show m.cls.getD i default=[] by rw[an,gI hi];rfl]at hc;exact absurd hc (by rw[List.getD_nil,yZ];simp)
def Km{m:ae}{plan:List Int}:∀ (l:List Pr) (out:List Int),(∀ p∈l,eP m p=true)->fi m.rules out->fi m.rules (nN m plan l out)
 |[],_,_,h=>h
 |p::r,out,hp,h=>by
  rw[nN];refine Km r _ (λq hq=>hp q (by simp[hq])) ?_;split
  ·exact h.add (yH (hp p Eb) _ _)
  ·exact h
def Kn{m:ae}{plan:List Int}:∀ (l:List Ct) (out:List Int),(∀ c∈l,gY m c=true)->fi m.rules out->fi m.rules (nO plan l out)
 |[],_,_,h=>h
 |c::r,out,hp,h=>by
  rw[nO];exact Kn r _ (λq hq=>hp q (by simp[hq])) (h.add (B0 (nP (vB (hp c Eb)).2.2.1)))
def CF{m:ae}(hm:VM m)(plan:List Int):fi m.rules (oX m plan) :=
 Kn _ _ hm.ct (Km _ _ (mS hm.pr) (y7 hm _ _ _ (fi.rep hm.qd.1)))
def eU:List Int->Int
 |[]=>0
 |x::r=>x+eU r
def CG:∀ {l:List Int},(∀ x∈l,bG x)->0<=eU l/\eU l<=1099511627776*l.length
 |[],_=>by simp[eU]
 |x::r,h=>by
  have:=CG λy hy=>h y (List.mem_cons_of_mem x hy);have:=h x Eb;unfold bG at this;simp only[eU,List.length_cons];omega
def y8:∀ {l:List Int} {n:Int},(∀ x∈l,bG x)->bG n->oW l n=min (n+eU l) 1099511627776
 |[],n,_,hn=>by unfold bG at hn;simp only[oW,eU];omega
 |x::r,n,h,hn=>by
  have hx:=h x Eb;have hr:∀ y∈r,bG y:=λy hy=>h y (by simp[hy]);rw[oW,y8 hr (vx hn hx)];have:=CG hr;unfold bG at hx hn;simp only[fB,eU];omega
def CH:∀ {l:List Int},(∀ x∈l,bG x)->∀ x∈l,x<=eU l
 |[],_,x,hx=>by simp at hx
 |y::r,h,x,hx=>by
  have hr:∀ z∈r,bG z:=λz hz=>h z (by simp[hz]);have:=(CG hr).1;have hy:=h y Eb;unfold bG at hy;rcases List.mem_cons.1 hx with rfl|hx
  ·simp only[eU];omega
  ·have:=CH hr x hx;simp only[eU];omega
abbrev SC:=Int×Int
def v5(s:SC)(cost times:Int):SC:=if cost=1099511627776 then(s.1+times,s.2) else(s.1,s.2+cost*times)
structure FP(m:ae)(plan:List Int):Prop where
 len:plan.length=m.cls.length
 get:∀ j,j<plan.length->gn m (j:Nat) (plan.getD j 0)=true
def FP.pm{m:ae}{plan:List Int}(h:FP m plan):PM m plan:=⟨h.len,λj hj=>.inr (h.get j hj)⟩
def SB(s:SC)(n:Nat):Prop:=0<=s.1/\s.1<=1048576*n/\0<=s.2/\s.2<=1099511627776*n
def SB.zero:SB (0,0) 0:=by unfold SB;decide
def SB.mono{s:SC}{n k:Nat}(h:SB s n)(hk:n<=k):SB s k:=by unfold SB at *;omega
def Qo(c:Int):Prop:=0<=c/\c<=1048576\/c=1099511627776
def Qp{c t:Int}(hc:0<=c/\c<=1048576)(ht:0<=t/\t<=1048576):0<=c*t/\c*t<=1099511627776 :=
 ⟨Int.mul_nonneg hc.1 ht.1,Int.le_trans (Ah hc.2 ht.2 ht.1 z8) US⟩
def SB.add{s:SC}{n:Nat}(h:SB s n){c t:Int}(hc:Qo c)(ht:0<=t/\t<=1048576):SB (v5 s c t) (n+1):=by
 unfold SB v5 at *;split
 ·dsimp only;omega
 ·have:=Qp (hc.resolve_right (by assumption)) ht;dsimp only;omega
def Ko:∀ (l:List Int) (i:Nat) (x:Int),i<l.length->eU (l.set i x)=eU l-l.getD i 0+x
 |[],i,x,h=>by simp at h
 |y::r,0,x,_=>by simp only[List.set_cons_zero,eU,List.getD_cons_zero];omega
 |y::r,i+1,x,h=>by
  have:=Ko r i x (by simpa using h);simp only[List.set_cons_succ,eU,List.getD_cons_succ];omega
structure Rel(R:Int)(out:List Int)(s:SC)(n:Nat):Prop where
 ok:fi R out
 b0:0<=s.1
 c0:0<=s.2/\s.2<=1048576*n
 eq:s.1=0->eU out=s.2
 ff:0<s.1->1099511627776∈out
def Rel.mono{R:Int}{out:List Int}{s:SC}{n k:Nat}(h:Rel R out s n)(hk:n<=k):Rel R out s k :=
 ⟨h.ok,h.b0,by have:=h.c0;omega,h.eq,h.ff⟩
def Rel.add{R:Int}{out:List Int}{s:SC}{n k:Nat}(h:Rel R out s n){r d c t:Int}(hr:0<=r/\r<R)(ht:0<=t)(hc:(c=1099511627776/\d=if 0<t then 1099511627776 else 0)\/(c≠1099511627776/\d=c*t/\0<=d/\d<=1048576*k))(hb:n+k<1048576):
  Rel R (dZ out r d) (v5 s c t) (n+k):=by
 have cR:bG d:=by
  unfold bG;rcases hc with⟨_,h⟩|⟨_,_,h1,h2⟩
  ·rw[h];split<;>omega
  ·omega
 have hlen:=h.ok.1;have hi:r.toNat<out.length:=z8;have hg:=h.ok.get r.toNat;have cO:=aO (d:=(0:Int)) hi;have hs:=CH h.ok.2 _ cO;have iL:=Ko out r.toNat (fB (out.getD r.toNat 0) d) hi;have iY:=h.c0;have Cw:=h.b0;have CJ:fB (out.getD r.toNat 0) d∈dZ out r d:=by
  unfold dZ;have:(out.set r.toNat (fB (out.getD r.toNat 0) d)).getD r.toNat 0=fB (out.getD r.toNat 0) d:=by
   rw[an,Ee hi];rfl
  have CK:=aO (l:=out.set r.toNat (fB (out.getD r.toNat 0) d)) (i:=r.toNat) (d:=0) (by simpa using hi);rwa [this]at CK
 have Kp:1099511627776∈out->1099511627776∈dZ out r d:=by
  intro hm;obtain⟨j,hj,Kq⟩:=List.mem_iff_getElem.1 hm;by_cases Kr:r.toNat=j
  ·subst Kr;have:out.getD r.toNat 0=1099511627776:=by rw[an,aN hj];exact Kq
   rw[this]at CJ;have e:fB 1099511627776 d=1099511627776:=by unfold bG at cR;unfold fB;omega
   rwa [e]at CJ
  ·have:(dZ out r d).getD j 0=1099511627776:=by
    unfold dZ;rw[an,cV Kr,aN hj];exact Kq
   have CK:=aO (l:=dZ out r d) (i:=j) (d:=0) (by unfold dZ;simpa using hj);rwa [this]at CK
 unfold bG at hg cR;rcases hc with⟨CL,hd⟩|⟨CL,hd,Ud,Ue⟩
 ·unfold v5;rw[if_pos CL];refine⟨h.ok.add (by unfold bG;exact cR),UT,UT,λhz=>?_,λhz=>?_⟩
  ·dsimp only at hz ⊢;have:d=0:=by rw[hd,if_neg z8]
   rw[<- h.eq z8];unfold dZ;rw[iL];unfold fB;omega
  ·dsimp only at hz;by_cases v7:0<t
   ·have:fB (out.getD r.toNat 0) d=1099511627776:=by rw[hd,if_pos v7];unfold fB;omega
    rwa [this]at CJ
   ·exact Kp (h.ff z8)
 ·unfold v5;rw[if_neg CL,<- hd];refine⟨h.ok.add (by unfold bG;exact cR),UT,UT,λhz=>?_,λhz=>?_⟩
  ·dsimp only at hz ⊢;have he:=h.eq hz;unfold dZ;rw[iL];unfold fB;omega
  ·exact Kp (h.ff hz)
def qt(m:ae)(a x b y:Int)(p:Pr):Bool:=decide (p.fst=a/\p.snd=b/\l4 m p x y=1099511627776)
def rV(m:ae)(a x b y:Int):Bool:=if b<a then m.aj.any (qt m b y a x) else m.aj.any (qt m a x b y)
structure CI(m:ae)(plan out mv:List Int):Prop where
 fp:FP m out
 nd:mv.Nodup
 rg:∀ x∈mv,0<=x/\x<out.length
 un:∀ y:Nat,y<out.length->¬ (y:Int)∈mv->out.getD y 0=plan.getD y 0
def CM:∀ {n:Nat} {l:List Int},l.Nodup->(∀ x∈l,0<=x/\x<n)->l.length<=n
 |0,l,h,hr=>by
  cases l with
  |nil=>simp
  |cons x r=>have:=hr x Eb;omega
 |n+1,l,h,hr=>by
  by_cases hm:(n:Int)∈l
  ·have h1:=List.length_erase_of_mem hm;have h2:=CM (n:=n) (h.erase (n:Int)) λx hx=>by
    have h3:=(List.Nodup.mem_erase_iff h).1 hx;have:=hr x h3.2;omega
   omega
  ·have:=CM (n:=n) h λx hx=>by
    have:=hr x hx;have:x≠n:=λe=>hm (e▸hx);omega
   omega
def CI.len{m:ae}{plan out mv:List Int}(h:CI m plan out mv):mv.length<=out.length:=CM h.nd h.rg
def CI.step{m:ae}{plan out mv:List Int}(h:CI m plan out mv){y:Nat}(hy:y<out.length)(hm:¬ (y:Int)∈mv){o:Int}(ho:gn m (y:Nat) o=true):CI m plan (out.set y o) (mv++[(y:Int)]):=by
 refine⟨?_,?_,?_,?_⟩
 ·refine⟨by rw[bm];exact h.fp.len,λj hj=>?_⟩;rw[bm]at hj;by_cases e:y=j
  ·subst e;rw[an,Ee hj];exact ho
  ·rw[an,cV e,<- an];exact h.fp.get j hj
 ·rw[List.nodup_append];refine⟨h.nd,Eb,λa ha b hb=>?_⟩;rw[bB]at hb;subst hb;intro e;subst e;exact hm ha
 ·intro x hx;rw[bm];rcases bn.1 hx with hx|hx
  ·exact h.rg x hx
  ·rw[bB.1 hx];omega
 ·intro j hj hn;rw[bm]at hj;rw[bn,not_or,bB]at hn;rw[an,cV z8,<- an];exact h.un j hj hn.1
def CI.start{m:ae}{plan:List Int}(hp:FP m plan){c:Nat}{o:Int}(ho:gn m (c:Nat) o=true):CI m plan (plan.set c o) [(c:Int)]:=by
 have hc:c<plan.length:=by have:=nQ.1 ho;have:=hp.len;omega
 have h0:CI m plan plan []:=⟨hp,Eb,Eb,λ_ _ _=>rfl⟩;exact h0.step hc Eb ho
end T

