import Derived.Test.YtodilglobhifaaaGreatDoorX10
set_option linter.all false
set_option maxHeartbeats 0
set_option maxRecDepth 20000
open List renaming nil_append→dx,cons_append→ew,mem_append→bE,mem_singleton→bK,getD_eq_getElem?_getD→ax,getElem?_eq_none→fO,getD_nil→Bx,getD_cons_zero→je,getD_cons_succ→gY,getElem?_set_self→JJ,getElem?_eq_getElem→aT,getElem?_set_ne→dz,length_set→bm
open Bool renaming and_eq_true→bb
open Option renaming some→cL
open Int renaming mul_le_mul→wY,mul_nonneg→vg,le_refl→xd
open Nat renaming lt_or_ge→dr
open Go Go.Am
namespace T
def Rv{R:Int}{c:Int×Int}:∀ {l:List (Int×Int)} {q:Option (Int×Int)},du R q l=true->g6 R c.1=true->fv c.2=true->(∀ x∈l,x.1<c.1)->(∀ y,q=some y->y.1<c.1)->du R q (l++[c])=true
 |[],q,_,h1,h2,_,h3=>by
  rw[dx,du.eq_def];cases q with
  |none=>simp[h1,h2,du]
  |some y=>simp[h1,h2,du,h3 y rfl]
 |x::r,q,h,h1,h2,h3,h4=>by
  rw[du.eq_def]at h;simp only[bb]at h;rw[ew,du.eq_def];simp only[bb];exact⟨h.1,Rv h.2 h1 h2 (λy hy=>h3 y (by simp[hy])) (λy hy=>by simp only[cL.injEq]at hy;subst hy;exact h3 _ Jy)⟩
def Rw{m:ah}{c:Pr}:∀ {l:List Pr} {q:Option Pr},iB m q l=true->fG m c=true->(∀ x∈l,o8 x c<0)->(∀ y,q=some y->o8 y c<0)->iB m q (l++[c])=true
 |[],q,_,h1,_,h3=>by
  rw[dx,iB.eq_def];cases q with
  |none=>simp[h1,iB]
  |some y=>simp[h1,iB,h3 y rfl]
 |x::r,q,h,h1,h3,h4=>by
  rw[iB.eq_def]at h;simp only[bb]at h;rw[ew,iB.eq_def];simp only[bb];exact⟨h.1,Rw h.2 h1 (λy hy=>h3 y (by simp[hy])) (λy hy=>by simp only[cL.injEq]at hy;subst hy;exact h3 _ Jy)⟩
def Rx{m:ah}{c:Ld}:∀ {l:List Ld} {q:Option Ld},gK m q l=true->fH m c.cls c.opt=true->(1<=c.wt/\c.wt<=1000)->(∀ x∈l,pX x c<0)->(∀ y,q=some y->pX y c<0)->gK m q (l++[c])=true
 |[],q,_,h1,h2,_,h3=>by
  rw[dx,gK.eq_def];cases q with
  |none=>simp[h1,h2,gK]
  |some y=>simp[h1,h2,gK,h3 y rfl]
 |x::r,q,h,h1,h2,h3,h4=>by
  rw[gK.eq_def]at h;simp only[bb]at h;rw[ew,gK.eq_def];simp only[bb];exact⟨h.1,Rx h.2 h1 h2 (λy hy=>h3 y (by simp[hy])) (λy hy=>by simp only[cL.injEq]at hy;subst hy;exact h3 _ Jy)⟩
def Hf{cls:List (List bF)}{R:Int}{a b:List Pr}{c d:List Ct}:∀ (l:List Pr) (q:Option Pr),iB ⟨cls,a,c,R⟩ q l=iB ⟨cls,b,d,R⟩ q l
 |[],_=>rfl
 |x::r,q=>by
  have:=Hf (cls:=cls) (R:=R) (a:=a) (b:=b) (c:=c) (d:=d) r (some x);cases q<;>simp only[iB,this]<;>rfl
def Ry{cls:List (List bF)}{R:Int}{a b:List Pr}{c d:List Ct}:∀ (l:List Ld) (q:Option Ld),gK ⟨cls,a,c,R⟩ q l=gK ⟨cls,b,d,R⟩ q l
 |[],_=>rfl
 |x::r,q=>by
  have:=Ry (cls:=cls) (R:=R) (a:=a) (b:=b) (c:=c) (d:=d) r (some x);cases q<;>simp only[gK,this]<;>rfl
def Rz{cls:List (List bF)}{R:Int}{a b:List Pr}{c d:List Ct}(x:Ct):fP ⟨cls,a,c,R⟩ x=fP ⟨cls,b,d,R⟩ x:=by
 unfold fP;rw[Ry (a:=a) (b:=b) (c:=c) (d:=d)]
def Hg(L:List Int)(k:Nat):0<=mL L k/\mL L k<=1099511627776/\(0<mL L k->fv (mL L k)=true):=by
 have h6:=ke (L:=L) (k:=k) (n:=6) Bv;have V5:=ke (L:=L) (k:=db L k) (n:=20) Bv;unfold mL;split
 ·exact⟨Bv,Bv,Bv⟩
 ·split
  ·exact⟨Bv,Bv,λ_=>aac⟩
  ·refine⟨Bv,Bv,λ_=>?_⟩;rw[fv,decide_eq_true_eq];omega
def Hh{L:List Int}{k:Nat}(h:k<=L.length):rl L k<=L.length:=by
 unfold rl;split
 ·exact fQ h
 ·exact fQ (fQ h)
structure MM(m:ah)(iu options:Nat):Prop where
 vm:VM m
 oG:m.cls.length<=iu
 some:∀ l∈m.cls,1<=l.length/\l.length<=options
 rP:1<=m.rules/\m.rules<=4
 aI:m.aI.length<=2
 wk:∀ l∈m.cls,∀ o∈l,o.wk<=3
def VM.mb{m:ah}(h:VM m):MB m:=by
 refine⟨by have:=h.cls;omega,λl hl=>by have:=h.opt l hl;omega,λl hl o ho=>?_,by have:=h.aj;omega,λp hp=>?_,by have:=h.aI;omega,λc hc=>?_⟩
 ·have:=Y4 h.rP.1 (h.tj l hl o ho);have:=h.rP;omega
 ·obtain⟨_,h1,h2,h3,h4⟩:=xR (lE h.pr p hp);have a:=h.opt _ (aF (l:=m.cls) (i:=p.fst.toNat) (d:=default) Bv);have b:=h.opt _ (aF (l:=m.cls) (i:=p.snd.toNat) (d:=default) Bv);have:((m.cls.getD p.fst.toNat default).length:Int)*(m.cls.getD p.snd.toNat default).length<=24*24:=wY Bv Bv Bv Bv;omega
 ·have:=QY h (uK (h.ct c hc)).2.2.2;omega
def cd(L:List Int)(k:Nat)(cls:List (List bF))(aj:List Pr)(aI:List Ct)(R:Int):List Ob :=
 [.var [.tree 1 (ints L),aam k],.var [.lit (.slice none 0 0),.lit (.slice none 0 0),.lit (.slice none 0 0),aam 0],
  .var [.ref 3 1 0 cls.length,.ref 4 4 0 aj.length,.ref 5 4 0 aI.length,aam R],.arr 1 (rowsOf bw cls),.arr 4 (rowsOf aO aj),.arr 4 (rowsOf cN aI)]
def RA(R:Int)(l:List bF):Prop:=∀ o∈l,du R none o.ch=true/\o.wk<=3
def Ai(p:Pr)(u i k:Nat):Prop:=p.dN<u\/(p.dN=u/\(p.fst<i\/(p.fst=i/\p.snd<k)))
structure qD(cls:List (List bF))(R:Int)(aj:List Pr)(u i k:Nat):Prop where
 ok:iB ⟨cls,[],[],R⟩ none aj=true
 lt:∀ p∈aj,Ai p u i k
 len:aj.length<=576*u+24*i+k
def qD.mono{cls:List (List bF)}{R:Int}{aj:List Pr}{u i k u' i' k':Nat}(h:qD cls R aj u i k)(hl:u<u'\/(u=u'/\(i<i'\/(i=i'/\k<=k'))))(hs:576*u+24*i+k<=576*u'+24*i'+k'):qD cls R aj u' i' k' :=
 ⟨h.ok,λp hp=>by have:=h.lt p hp;unfold Ai at *;omega,by have:=h.len;omega⟩
def qD.app{cls:List (List bF)}{R:Int}{aj:List Pr}{u i k:Nat}(h:qD cls R aj u i k){bj:List Int}(hp:fG ⟨cls,[],[],R⟩ ⟨i,k,u,bj⟩=true):qD cls R (aj++[⟨i,k,u,bj⟩]) u i (k+1):=by
 refine⟨Rw h.ok hp (λx hx=>?_) Jy,λp hp=>?_,by have:=h.len;simp;omega⟩
 ·have:=h.lt x hx;rw[J7];unfold Ai at this;dsimp only;omega
 ·rcases bE.1 hp with hp|hp
  ·have:=h.lt p hp;unfold Ai at *;omega
  ·simp only[bK]at hp;subst hp;unfold Ai;dsimp only;omega
def RB{cls:List (List bF)}{R:Int}{bj:List Int}{i k u:Nat}(hu:(u:Int)<R)(RC:i<k)(hk:k<cls.length)(ht:bj.length=(cls.getD i default).length*(cls.getD k default).length)(hc:∀ x∈bj,0<=x/\(0<x->fv x=true)):
  fG ⟨cls,[],[],R⟩ ⟨i,k,u,bj⟩=true:=by
 unfold fG g6;simp only[bb,decide_eq_true_eq,Bool.not_eq_true',Int.toNat_natCast,List.any_eq_false];refine⟨⟨⟨Bv,hu⟩,Bv,Bv,Bv,?_⟩,λx hx=>?_⟩
 ·rw[ht];simp
 ·unfold mH;have:=hc x hx;by_cases h0:x=0
  ·subst h0;decide
  ·rw[this.2 Bv];simp
structure rU(cls:List (List bF))(R:Int)(l:List Ld)(i k:Nat):Prop where
 ok:gK ⟨cls,[],[],R⟩ none l=true
 lt:∀ x∈l,x.cls<i\/(x.cls=i/\x.opt<k)
 len:l.length<=24*i+k
def rU.mono{cls:List (List bF)}{R:Int}{l:List Ld}{i k i' k':Nat}(h:rU cls R l i k)(hl:i<i'\/(i=i'/\k<=k'))(hs:24*i+k<=24*i'+k'):rU cls R l i' k' :=
 ⟨h.ok,λp hp=>by have:=h.lt p hp;omega,by have:=h.len;omega⟩
def rU.app{cls:List (List bF)}{R:Int}{l:List Ld}{i k:Nat}(h:rU cls R l i k){w:Int}(hi:i<cls.length)(hk:k<(cls.getD i default).length)(hw:1<=w/\w<=1000):rU cls R (l++[⟨i,k,w⟩]) i (k+1):=by
 refine⟨Rx h.ok (mj.2 ⟨aad,aad,aad,by simp;exact hk⟩) hw (λx hx=>?_) Jy,λp hp=>?_,by have:=h.len;simp;omega⟩
 ·have:=h.lt x hx;rw[Fm];dsimp only;omega
 ·rcases bE.1 hp with hp|hp
  ·have:=h.lt p hp;omega
  ·simp only[bK]at hp;subst hp;dsimp only;omega
def Dk:(default:bF).ch=[]:=rfl
def Dl{m:ah}(hm:VM m):∀ (plan:List Int) (i:Nat) (out:List Int),im m.rules out->im m.rules (oE m i plan out)
 |[],_,_,h=>h
 |o::r,i,out,h=>by
  rw[oE];refine Dl hm r (i+1) _ ?_;split
  ·exact h
  ·refine QZ h λc hc=>?_;rcases dr i m.cls.length with hi|hi
   ·have hl:=aF (d:=(default:List bF)) hi;generalize m.cls.getD i default=l at *;rcases dr o.toNat l.length with ho|ho
    ·exact(z9 (hm.tj l hl _ (aF ho)) c hc).2
    ·rw[show l.getD o.toNat default=default by rw[ax,fO ho];rfl]at hc;exact absurd hc (by rw[Dk];simp)
   ·rw[show m.cls.getD i default=[] by rw[ax,fO hi];rfl]at hc;exact absurd hc (by rw[Bx,Dk];simp)
def RD{m:ah}{plan:List Int}:∀ (l:List Pr) (out:List Int),(∀ p∈l,fG m p=true)->im m.rules out->im m.rules (rN m plan l out)
 |[],_,_,h=>h
 |p::r,out,hp,h=>by
  rw[rN];refine RD r _ (λq hq=>hp q (by simp[hq])) ?_;split
  ·exact h.add (C9 (hp p Jy) _ _)
  ·exact h
def RE{m:ah}{plan:List Int}:∀ (l:List Ct) (out:List Int),(∀ c∈l,fP m c=true)->im m.rules out->im m.rules (rO plan l out)
 |[],_,_,h=>h
 |c::r,out,hp,h=>by
  rw[rO];exact RE r _ (λq hq=>hp q (by simp[hq])) (h.add (G2 (pC (uK (hp c Jy)).2.2.1)))
def Hi{m:ah}(hm:VM m)(plan:List Int):im m.rules (th m plan) :=
 RE _ _ hm.ct (RD _ _ (lE hm.pr) (Dl hm _ _ _ (im.rep hm.rP.1)))
def gR:List Int->Int
 |[]=>0
 |x::r=>x+gR r
def Hj:∀ {l:List Int},(∀ x∈l,bL x)->0<=gR l/\gR l<=1099511627776*l.length
 |[],_=>by simp[gR]
 |x::r,h=>by
  have:=Hj λy hy=>h y (List.mem_cons_of_mem x hy);have:=h x Jy;unfold bL at this;simp only[gR,List.length_cons];omega
def Dm:∀ {l:List Int} {n:Int},(∀ x∈l,bL x)->bL n->tg l n=min (n+gR l) 1099511627776
 |[],n,_,hn=>by unfold bL at hn;simp only[tg,gR];omega
 |x::r,n,h,hn=>by
  have hx:=h x Jy;have hr:∀ y∈r,bL y:=λy hy=>h y (by simp[hy]);rw[tg,Dm hr (xQ hn hx)];have:=Hj hr;unfold bL at hx hn;simp only[eO,gR];omega
def Hk:∀ {l:List Int},(∀ x∈l,bL x)->∀ x∈l,x<=gR l
 |[],_,x,hx=>by simp at hx
 |y::r,h,x,hx=>by
  have hr:∀ z∈r,bL z:=λz hz=>h z (by simp[hz]);have:=(Hj hr).1;have hy:=h y Jy;unfold bL at hy;rcases List.mem_cons.1 hx with rfl|hx
  ·simp only[gR];omega
  ·have:=Hk hr x hx;simp only[gR];omega
abbrev SC:=Int×Int
def Aj(s:SC)(cost times:Int):SC:=if cost=1099511627776 then(s.1+times,s.2) else(s.1,s.2+cost*times)
structure FP(m:ah)(plan:List Int):Prop where
 len:plan.length=m.cls.length
 get:∀ j,j<plan.length->fH m (j:Nat) (plan.getD j 0)=true
def FP.pm{m:ah}{plan:List Int}(h:FP m plan):PM m plan:=⟨h.len,λj hj=>.inr (h.get j hj)⟩
def SB(s:SC)(n:Nat):Prop:=0<=s.1/\s.1<=1048576*n/\0<=s.2/\s.2<=1099511627776*n
def SB.zero:SB (0,0) 0:=by unfold SB;decide
def SB.mono{s:SC}{n k:Nat}(h:SB s n)(hk:n<=k):SB s k:=by unfold SB at *;omega
def Zt(c:Int):Prop:=0<=c/\c<=1048576\/c=1099511627776
def Zu{c t:Int}(hc:0<=c/\c<=1048576)(ht:0<=t/\t<=1048576):0<=c*t/\c*t<=1099511627776 :=
 ⟨vg hc.1 ht.1,Int.le_trans (wY hc.2 ht.2 ht.1 Bv) aac⟩
def SB.add{s:SC}{n:Nat}(h:SB s n){c t:Int}(hc:Zt c)(ht:0<=t/\t<=1048576):SB (Aj s c t) (n+1):=by
 unfold SB Aj at *;split
 ·dsimp only;omega
 ·have:=Zu (hc.resolve_right (by assumption)) ht;dsimp only;omega
def RF:∀ (l:List Int) (i:Nat) (x:Int),i<l.length->gR (l.set i x)=gR l-l.getD i 0+x
 |[],i,x,h=>by simp at h
 |y::r,0,x,_=>by simp only[List.set_cons_zero,gR,je];omega
 |y::r,i+1,x,h=>by
  have:=RF r i x (by simpa using h);simp only[List.set_cons_succ,gR,gY];omega
structure Rel(R:Int)(out:List Int)(s:SC)(n:Nat):Prop where
 ok:im R out
 b0:0<=s.1
 c0:0<=s.2/\s.2<=1048576*n
 eq:s.1=0->gR out=s.2
 ff:0<s.1->1099511627776∈out
def Rel.mono{R:Int}{out:List Int}{s:SC}{n k:Nat}(h:Rel R out s n)(hk:n<=k):Rel R out s k :=
 ⟨h.ok,h.b0,by have:=h.c0;omega,h.eq,h.ff⟩
def Rel.add{R:Int}{out:List Int}{s:SC}{n k:Nat}(h:Rel R out s n){r d c t:Int}(hr:0<=r/\r<R)(ht:0<=t)(hc:(c=1099511627776/\d=if 0<t then 1099511627776 else 0)\/(c≠1099511627776/\d=c*t/\0<=d/\d<=1048576*k))(hb:n+k<1048576):
  Rel R (fL out r d) (Aj s c t) (n+k):=by
 have eE:bL d:=by
  unfold bL;rcases hc with⟨_,h⟩|⟨_,_,h1,h2⟩
  ·rw[h];split<;>omega
  ·omega
 have hlen:=h.ok.1;have hi:r.toNat<out.length:=Bv;have hg:=h.ok.get r.toNat;have bP:=aF (d:=(0:Int)) hi;have hs:=Hk h.ok.2 _ bP;have jZ:=RF out r.toNat (eO (out.getD r.toNat 0) d) hi;have jO:=h.c0;have sK:=h.b0;have Hl:eO (out.getD r.toNat 0) d∈fL out r d:=by
  unfold fL;have:(out.set r.toNat (eO (out.getD r.toNat 0) d)).getD r.toNat 0=eO (out.getD r.toNat 0) d:=by
   rw[ax,JJ hi];rfl
  have Hm:=aF (l:=out.set r.toNat (eO (out.getD r.toNat 0) d)) (i:=r.toNat) (d:=0) (by simpa using hi);rwa [this]at Hm
 have RG:1099511627776∈out->1099511627776∈fL out r d:=by
  intro hm;obtain⟨j,hj,RH⟩:=List.mem_iff_getElem.1 hm;by_cases RJ:r.toNat=j
  ·subst RJ;have:out.getD r.toNat 0=1099511627776:=by rw[ax,aT hj];exact RH
   rw[this]at Hl;have e:eO 1099511627776 d=1099511627776:=by unfold bL at eE;unfold eO;omega
   rwa [e]at Hl
  ·have:(fL out r d).getD j 0=1099511627776:=by
    unfold fL;rw[ax,dz RJ,aT hj];exact RH
   have Hm:=aF (l:=fL out r d) (i:=j) (d:=0) (by unfold fL;simpa using hj);rwa [this]at Hm
 unfold bL at hg eE;rcases hc with⟨Hn,hd⟩|⟨Hn,hd,hd0,hdk⟩
 ·unfold Aj;rw[if_pos Hn];refine⟨h.ok.add (by unfold bL;exact eE),aad,aad,λhz=>?_,λhz=>?_⟩
  ·dsimp only at hz ⊢;have:d=0:=by rw[hd,if_neg Bv]
   rw[<- h.eq Bv];unfold fL;rw[jZ];unfold eO;omega
  ·dsimp only at hz;by_cases Ak:0<t
   ·have:eO (out.getD r.toNat 0) d=1099511627776:=by rw[hd,if_pos Ak];unfold eO;omega
    rwa [this]at Hl
   ·exact RG (h.ff Bv)
 ·unfold Aj;rw[if_neg Hn,<- hd];refine⟨h.ok.add (by unfold bL;exact eE),aad,aad,λhz=>?_,λhz=>?_⟩
  ·dsimp only at hz ⊢;have he:=h.eq hz;unfold fL;rw[jZ];unfold eO;omega
  ·exact RG (h.ff hz)
def oH(m:ah)(a x b y:Int)(p:Pr):Bool:=decide (p.fst=a/\p.snd=b/\pB m p x y=1099511627776)
def tv(m:ah)(a x b y:Int):Bool:=if b<a then m.aj.any (oH m b y a x) else m.aj.any (oH m a x b y)
structure CI(m:ah)(plan out mv:List Int):Prop where
 fp:FP m out
 nd:mv.Nodup
 rg:∀ x∈mv,0<=x/\x<out.length
 un:∀ y:Nat,y<out.length->¬ (y:Int)∈mv->out.getD y 0=plan.getD y 0
def Ho:∀ {n:Nat} {l:List Int},l.Nodup->(∀ x∈l,0<=x/\x<n)->l.length<=n
 |0,l,h,hr=>by
  cases l with
  |nil=>simp
  |cons x r=>have:=hr x Jy;omega
 |n+1,l,h,hr=>by
  by_cases hm:(n:Int)∈l
  ·have h1:=List.length_erase_of_mem hm;have h2:=Ho (n:=n) (h.erase (n:Int)) λx hx=>by
    have h3:=(List.Nodup.mem_erase_iff h).1 hx;have:=hr x h3.2;omega
   omega
  ·have:=Ho (n:=n) h λx hx=>by
    have:=hr x hx;have:x≠n:=λe=>hm (e▸hx);omega
   omega
def CI.len{m:ah}{plan out mv:List Int}(h:CI m plan out mv):mv.length<=out.length:=Ho h.nd h.rg
def CI.step{m:ah}{plan out mv:List Int}(h:CI m plan out mv){y:Nat}(hy:y<out.length)(hm:¬ (y:Int)∈mv){o:Int}(ho:fH m (y:Nat) o=true):CI m plan (out.set y o) (mv++[(y:Int)]):=by
 refine⟨?_,?_,?_,?_⟩
 ·refine⟨by rw[bm];exact h.fp.len,λj hj=>?_⟩;rw[bm]at hj;by_cases e:y=j
  ·subst e;rw[ax,JJ hj];exact ho
  ·rw[ax,dz e,<- ax];exact h.fp.get j hj
 ·rw[List.nodup_append];refine⟨h.nd,Jy,λa ha b hb=>?_⟩;rw[bK]at hb;subst hb;intro e;subst e;exact hm ha
 ·intro x hx;rw[bm];rcases bE.1 hx with hx|hx
  ·exact h.rg x hx
  ·rw[bK.1 hx];omega
 ·intro j hj hn;rw[bm]at hj;rw[bE,not_or,bK]at hn;rw[ax,dz Bv,<- ax];exact h.un j hj hn.1
def CI.start{m:ah}{plan:List Int}(hp:FP m plan){c:Nat}{o:Int}(ho:fH m (c:Nat) o=true):CI m plan (plan.set c o) [(c:Int)]:=by
 have hc:c<plan.length:=by have:=mj.1 ho;have:=hp.len;omega
 have h0:CI m plan plan []:=⟨hp,Jy,Jy,λ_ _ _=>rfl⟩;exact h0.step hc Jy ho
def LE(a b:List Int):Prop:=a.length=b.length/\∀ i,a.getD i 0<=b.getD i 0
def LE.refl(a:List Int):LE a a:=⟨rfl,λ_=>xd _⟩
def rV(l:List Int)(n i:Nat)(x:Int):(l.set n x).getD i 0=if n=i/\i<l.length then x else l.getD i 0:=by
 rw[ax,List.getElem?_set,ax];by_cases h:n=i
 ·subst h;by_cases h2:n<l.length
  ·rw[if_pos rfl,if_pos h2,if_pos ⟨rfl,h2⟩];rfl
  ·rw[if_pos rfl,if_neg h2,if_neg (λh=>h2 h.2),fO Bv]
 ·rw[if_neg h,if_neg (λh'=>h h'.1)]
def LE.add{a b:List Int}(h:LE a b){r c d:Int}(hcd:c<=d):LE (fL a r c) (fL b r d):=by
 refine⟨by simp only[fL,bm];exact h.1,λi=>?_⟩;rw[fL,fL,rV,rV,h.1];have:=h.2 i;have:=h.2 r.toNat;split
 ·unfold eO;omega
 ·exact h.2 i
def LE.up{R:Int}{a b:List Int}(h:LE a b)(hb:im R b){r c:Int}(hc:0<=c):LE a (fL b r c):=by
 refine⟨by simp only[fL,bm];exact h.1,λi=>?_⟩;rw[fL,rV];have h1:=h.2 i;have h2:=hb.get i;unfold bL at h2;split
 ·rename_i hh;rw[hh.1];unfold eO;omega
 ·exact h1
def RK:∀ (l:List (Int×Int)) {a b:List Int},LE a b->LE (te l a) (te l b)
 |[],_,_,h=>h
 |c::r,_,_,h=>RK r (h.add (xd _))
def RL{R:Int}:∀ (l:List (Int×Int)) {a b:List Int},LE a b->im R b->(∀ c∈l,fv c.2=true)->LE a (te l b)
 |[],_,_,h,_,_=>h
 |c::r,_,_,h,hb,hp=>by
  have:=pC (hp c Jy);exact RL r (h.up hb this.1) (hb.add this) λx hx=>hp x (by simp[hx])
def Up(p q:List Int):Prop:=p.length=q.length/\∀ j,p.getD j 0=q.getD j 0\/p.getD j 0<0
def Zv{m:ah}(hm:VM m)(i:Nat)(o:Int):∀ c∈((m.cls.getD i default).getD o.toNat default).ch,fv c.2=true:=by
 intro c hc;rcases dr i m.cls.length with hi|hi
 ·have hl:=aF (d:=(default:List bF)) hi;generalize m.cls.getD i default=l at *;rcases dr o.toNat l.length with ho|ho
  ·exact(z9 (hm.tj l hl _ (aF ho)) c hc).2
  ·rw[show l.getD o.toNat default=default by rw[ax,fO ho];rfl]at hc;exact absurd hc (by rw[Dk];simp)
 ·rw[show m.cls.getD i default=[] by rw[ax,fO hi];rfl]at hc;exact absurd hc (by rw[Bx,Dk];simp)
def RM{m:ah}(hm:VM m):∀ (p q:List Int) (i:Nat) (a b:List Int),p.length=q.length->(∀ j,p.getD j 0=q.getD j 0\/p.getD j 0<0)->LE a b->im m.rules b->LE (oE m i p a) (oE m i q b)
 |[],[],_,_,_,_,_,h,_=>h
 |[],_::_,_,_,_,hl,_,_,_=>by simp at hl
 |_::_,[],_,_,_,hl,_,_,_=>by simp at hl
 |o::p,o'::q,i,a,b,hl,hj,h,hb=>by
  have az:im m.rules (oE m i [o'] b):=Dl hm _ _ _ hb;rw[oE,oE]at az;rw[oE,oE];refine RM hm p q (i+1) _ _ (by simpa using hl) (λj=>?_) ?_ az
  ·have:=hj (j+1);rwa [gY,gY]at this
  ·have h0:=hj 0;rw[je,je]at h0;rcases h0 with h0|h0
   ·subst h0;split
    ·exact h
    ·exact RK _ h
   ·rw[if_pos h0];split
    ·exact h
    ·exact RL _ h hb (Zv hm i o')
def RN{m:ah}{p q:List Int}(hu:Up p q):∀ (l:List Pr) (a b:List Int),(∀ x∈l,fG m x=true)->LE a b->im m.rules b->LE (rN m p l a) (rN m q l b)
 |[],_,_,_,h,_=>h
 |x::r,a,b,hp,h,hb=>by
  have he:=C9 (hp x Jy) (q.getD x.fst.toNat 0) (q.getD x.snd.toNat 0);rw[rN,rN];refine RN hu r _ _ (λy hy=>hp y (by simp[hy])) ?_ ?_
  ·by_cases hc:0<=p.getD x.fst.toNat 0/\0<=p.getD x.snd.toNat 0
   ·have h1:p.getD x.fst.toNat 0=q.getD x.fst.toNat 0:=(hu.2 _).resolve_right Bv;have h2:p.getD x.snd.toNat 0=q.getD x.snd.toNat 0:=(hu.2 _).resolve_right Bv;rw[if_pos hc,if_pos (by rw[<- h1,<- h2];exact hc),h1,h2];exact h.add (xd _)
   ·rw[if_neg hc];split
    ·exact h.up hb he.1
    ·exact h
  ·split
   ·exact hb.add he
   ·exact hb
def RO{m:ah}{p q:List Int}(hu:Up p q):∀ (l:List Ld) (n k:Int),(∀ x∈l,fH m x.cls x.opt=true/\1<=x.wt/\x.wt<=1000)->n<=k->uJ p l n<=uJ q l k
 |[],_,_,_,h=>h
 |x::r,n,k,hp,h=>by
  have hx:=hp x Jy;have ho:=(mj.1 hx.1).2.2.1;rw[uJ,uJ];refine RO (m:=m) hu r _ _ (λy hy=>hp y (by simp[hy])) ?_;rcases hu.2 x.cls.toNat with h1|h1
  ·rw[h1];split<;>omega
  ·rw[if_neg Bv];split<;>omega
def Zw{most bW s t:Int}(hp:0<=bW)(h:s<=t):mN most bW s<=mN most bW t:=by
 unfold mN;have h1:(s-most)*bW<=(t-most)*bW:=Int.mul_le_mul_of_nonneg_right Bv hp;split
 ·split
  ·exact xd _
  ·have:0<=(t-most)*bW:=vg Bv hp;omega
 ·rw[if_neg Bv];omega
def RP{m:ah}{p q:List Int}(hu:Up p q):∀ (l:List Ct) (a b:List Int),(∀ x∈l,fP m x=true)->LE a b->LE (rO p l a) (rO q l b)
 |[],_,_,_,h=>h
 |x::r,a,b,hp,h=>by
  have hx:=uK (hp x Jy);have hw:=G1 hx.2.2.2;rw[rO,rO];exact RP (m:=m) hu r _ _ (λy hy=>hp y (by simp[hy])) (h.add (Zw (pC hx.2.2.1).1 (RO (m:=m) hu _ _ _ hw (xd _))))
def Zx{m:ah}(hm:VM m){p q:List Int}(hu:Up p q):LE (th m p) (th m q):=by
 have h0:=im.rep hm.rP.1;refine RP hu _ _ _ hm.ct (RN hu _ _ _ (lE hm.pr) (RM hm _ _ _ _ _ hu.1 hu.2 (LE.refl _) h0) (Dl hm _ _ _ h0))
def RQ:∀ {a b:List Int},a.length=b.length->(∀ i,a.getD i 0<=b.getD i 0)->gR a<=gR b
 |[],[],_,_=>xd _
 |[],_::_,h,_=>by simp at h
 |_::_,[],h,_=>by simp at h
 |x::a,y::b,h,hi=>by
  have h0:=hi 0;rw[je,je]at h0;have:=RQ (a:=a) (b:=b) (by simpa using h) λi=>by
   have:=hi (i+1);rwa [gY,gY]at this
  simp only[gR];omega
def Zy{m:ah}(hm:VM m){p q:List Int}(hu:Up p q):tg (th m p) 0<=tg (th m q) 0:=by
 have h:=Zx hm hu;rw[Dm (Hi hm p).2 (by unfold bL;decide),Dm (Hi hm q).2 (by unfold bL;decide)];have:=RQ h.1 h.2;omega
def Up.set{p:List Int}{c:Nat}(o:Int)(h:p.getD c 0 = -1):Up p (p.set c o):=by
 refine⟨Jy,λj=>?_⟩;rw[rV];split
 ·rename_i hh;rw[<- hh.1,h];omega
 ·exact .inl rfl
def PM.set{m:ah}{p:List Int}(h:PM m p){c:Nat}{o:Int}(ho:o = -1\/fH m (c:Nat) o=true):PM m (p.set c o):=by
 refine⟨by rw[bm];exact h.len,λj hj=>?_⟩;rw[bm]at hj;rw[rV];split
 ·rename_i hh;rw[<- hh.1];exact ho
 ·exact h.get j hj
def Hq(cW:List Bool)(r:Int):Bool:=cW.getD r.toNat false
def Cut(cW:List Bool)(a b:List Int):Prop:=b.length=a.length/\∀ i:Nat,b.getD i 0=if Hq cW i=true then a.getD i 0 else 0
def Cut.add{cW:List Bool}{a b:List Int}(h:Cut cW a b){r c:Int}(hr:0<=r):Cut cW (fL a r c) (if Hq cW r=true then fL b r c else b):=by
 have iZ:((r.toNat:Nat):Int)=r:=Int.toNat_of_nonneg hr;refine⟨by split<;>simp only[fL,bm]<;>exact h.1,λi=>?_⟩;have hi:=h.2 i;have nJ:=h.2 r.toNat;rw[iZ]at nJ;by_cases hk:Hq cW r=true
 ·rw[if_pos hk];rw[if_pos hk]at nJ;rw[fL,fL,rV,rV,nJ,h.1];by_cases jY:r.toNat=i/\i<a.length
  ·rw[if_pos jY,if_pos jY,if_pos];rw[<- jY.1,iZ];exact hk
  ·rw[if_neg jY,if_neg jY];exact hi
 ·rw[if_neg hk,fL,rV];by_cases jY:r.toNat=i/\i<a.length
  ·rw[if_pos jY];rw[<- jY.1,iZ,if_neg hk]at hi;rw[<- jY.1,iZ,if_neg hk];exact hi
  ·rw[if_neg jY];exact hi
end T

