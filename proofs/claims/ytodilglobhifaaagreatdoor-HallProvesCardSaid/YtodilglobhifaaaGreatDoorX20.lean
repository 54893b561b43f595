import Derived.Test.YtodilglobhifaaaGreatDoorX16
set_option linter.all false
set_option maxHeartbeats 0
set_option maxRecDepth 20000
open List renaming getD_cons_zero→je,getD_eq_getElem?_getD→ax,getElem?_eq_getElem→aT,length_cons→cf,getD_cons_succ→gY,replicate→aD
open Int renaming add_zero→JN,zero_add→BF
open Nat renaming add_zero→k9,zero_add→gw
open Go Go.Am
namespace T
def LO.cW{α:Type}{enc:α->List AV}{B:List (Nat×Ob)}{D E:List (Nat×Nat)}{S T:List (List α)}{os ob:List Ob}(h:LO enc B D E S T os)(k:cQ os ob):LO enc B D E S T ob :=
 ⟨λb hb=>⟨k _ _ (h.base b hb).1,(h.base b hb).2⟩,⟨h.rD.len,λj hj=>⟨k _ _ (h.rD.row j hj).1,(h.rD.row j hj).2⟩⟩,⟨h.rE.len,λj hj=>⟨k _ _ (h.rE.row j hj).1,(h.rE.row j hj).2⟩⟩,h.nd⟩
def cQ.trans{a b c:List Ob}(h:cQ a b)(k:cQ b c):cQ a c:=λi o hi=>k i o (h i o hi)
def SW(b:List Bool):∀ (a:List Bool) (n:Nat),n<a.length*b.length->(wc a b).getD n false=(a.getD (n/b.length) false&&b.getD (n%b.length) false)
 |[],n,h=>by simp at h
 |x::r,n,h=>by
  have hb:0<b.length:=by
   rcases Nat.eq_zero_or_pos b.length with h0|h0
   ·rw[h0]at h;omega
   ·exact h0
  show((b.map (x && ·))++wc r b).getD n false=_;rcases Nat.lt_or_ge n b.length with hn|hn
  ·rw[Nat.div_eq_of_lt hn,Nat.mod_eq_of_lt hn,je,ax,List.getElem?_append_left (by simpa using hn),List.getElem?_map,aT hn,ax,aT hn];rfl
  ·obtain⟨k,rfl⟩ :∃k,n=k+b.length:=⟨n-b.length,Bv⟩;have ih:=SW b r k (by rw[cf,Nat.add_mul]at h;omega);rw[ax,List.getElem?_append_right (by simpa using hn),List.length_map,Nat.add_sub_cancel,<- ax,ih,Nat.add_div_right _ hb,Nat.add_mod_right,gY]
def sj(q:Int×Bool):Nm:=(q.1,!q.2)
def SZ(l:List Nm)(s:List Bool):pE (iq l s)=sj (nO l s (0,false)):=Zg l s
def tO(m:ah)(left:List (List Bool))(g:Lg):List (Int×Bool):=PC left g.1 m.cls.length++PP m left g.2 m.aj.length++PK m left m.aI.length
def Tp(a b:List (Int×Bool))(z:Int×Bool):fM (a++b) z=fM b (fM a z):=by unfold fM;rw[List.foldl_append]
def aa9(m:ah)(left:List (List Bool))(g:Lg):Di m left g=if(fM (tO m left g) (0,false)).2=true then 1099511627776 else min (fM (tO m left g) (0,false)).1 1099511627776:=by
 unfold Di tO;rw[Tp,Tp]
def Tq:∀ (l:List (Int×Bool)) (n:Int),(fM l (n,true)).2=true
 |[],_=>rfl
 |p::r,n=>Tq r _
def S8:∀ (l:List (Int×Bool)) (n:Int),(fM l (n,false)).2=true↔∃ p∈l,p.2=false
 |[],_=>by simp[fM]
 |p::r,n=>by
  show(fM r (n+p.1,false||!p.2)).2=true↔_;cases hp:p.2 with
  |false =>
   simp only[Bool.not_false,Bool.or_true];exact⟨λ_=>⟨p,Jy,hp⟩,λ_=>Tq r _⟩
  |true =>
   simp only[Bool.not_true,Bool.or_false];rw[S8 r];constructor
   ·rintro⟨q,hq,h⟩;exact⟨q,by simp[hq],h⟩
   ·rintro⟨q,hq,h⟩;rcases List.mem_cons.1 hq with rfl|hq
    ·rw[hp]at h;cases h
    ·exact⟨q,hq,h⟩
def abb{m:ah}(hm:VM m){left:List (List Bool)}(hl:left.length=m.cls.length){c:Ct}(hc:c∈m.aI)(hw:∀ x∈c.bQ,1<=x.wt/\x.wt<=1000):decide (1099511627776<=oX left c)=(decide (c.bW=1099511627776)&&decide (0<oX left c)):=by
 obtain⟨_,h2,h3,_⟩:=uK (hm.ct c hc);have hs:=JS hw left;have cz:=hm.cls;have hp:1<=c.bW/\c.bW<=1048576\/c.bW=1099511627776:=by unfold fv at h3;rw[decide_eq_true_eq]at h3;omega
 unfold oX mN;generalize pV c.bQ 0 left 0=n at *;rw[Bool.eq_iff_iff,Bool.and_eq_true,decide_eq_true_eq,decide_eq_true_eq,decide_eq_true_eq];split
 ·omega
 ·rcases hp with hp|hp
  ·have:(n-c.most)*c.bW<=24000*1048576:=Int.mul_le_mul Bv hp.2 Bv Bv;omega
  ·rw[hp];omega
def Ih:∀ (l:List Nm) (s:List Bool),(iq l s).length<=l.length
 |[],s=>by cases s<;>simp[iq]
 |p::r,[]=>by simp[iq]
 |p::r,is::s=>by
  rw[iq,List.length_append,cf];have:=Ih r s;split<;>simp<;>omega
structure Sat(R:Int)(out:List Int)(v:Int):Prop where
 ok:im R out
 v0:0<=v
 eq:min (gR out) 1099511627776=min v 1099511627776
def Tr:∀ (l:List Int) (i:Nat) (x:Int),i<l.length->gR (l.set i x)=gR l-l.getD i 0+x
 |[],i,x,h=>by simp at h
 |y::r,0,x,_=>by simp only[List.set_cons_zero,gR,je];omega
 |y::r,i+1,x,h=>by
  have:=Tr r i x (by simpa using h);simp only[List.set_cons_succ,gR,gY];omega
def Sat.add{R:Int}{out:List Int}{v r d:Int}(h:Sat R out v)(hr:0<=r/\r<R)(hd:bL d):Sat R (fL out r d) (v+d):=by
 have hlen:=h.ok.1;have hi:r.toNat<out.length:=Bv;have hs:=Hk h.ok.2 _ (aF (d:=(0:Int)) hi);have jZ:=Tr out r.toNat (eO (out.getD r.toNat 0) d) hi;have hg:=h.ok.get r.toNat;have he:=h.eq;have hv:=h.v0;unfold bL at hg;have gU:=hd;unfold bL at gU;refine⟨h.ok.add hd,Bv,?_⟩;unfold fL;rw[jZ];unfold eO;omega
def Sat.le{R:Int}{out:List Int}{v w:Int}(h:Sat R out v)(hw:0<=w)(e:min v 1099511627776=min w 1099511627776):Sat R out w:=⟨h.ok,hw,h.eq.trans e⟩
def Ts{R:Int}:∀ (l:List (Int×Int)) (out:List Int) (v n:Int),(∀ c∈l,g6 R c.1=true/\fv c.2=true)->0<=v->bL n->Sat R out (v+n)->Sat R (te l out) (v+(l.map (·.2)).foldl eO n)
 |[],out,v,n,_,_,_,h=>h
 |c::r,out,v,n,hc,hv,kK,h=>by
  rw[te];have h1:=hc c Jy;have hr:=h1.1;rw[g6,decide_eq_true_eq]at hr;have hp:=pC h1.2;have h2:=h.add hr hp;refine Ts r _ v (eO n c.2) (λx hx=>hc x (by simp[hx])) hv (xQ kK hp) (h2.le ?_ ?_)
  ·have:=xQ kK hp;unfold bL at this;omega
  ·unfold bL at hp kK;unfold eO;omega
def Tt{m:ah}(hm:VM m):∀ (plan:List Int) (i:Nat) (out:List Int) (v:Int),(∀ j,j<plan.length->fH m ((i+j:Nat):Int) (plan.getD j 0)=true) ->
  Sat m.rules out v->Sat m.rules (oE m i plan out) (v+cM (λj=>v9 ((m.cls.getD (i+j) default).getD (plan.getD j 0).toNat default)) plan.length)
 |[],i,out,v,_,h=>by show Sat m.rules out (v+0);rw[JN];exact h
 |o::r,i,out,v,hg,h=>by
  rw[oE];have h0:=hg 0 Jy;rw[je,k9]at h0;obtain⟨b1,b2,b3,b4⟩:=mj.1 h0;rw[Int.toNat_natCast]at b4;rw[if_neg Bv];have hl:=aF (l:=m.cls) (i:=i) (d:=default) Bv;have ho:=aF (l:=m.cls.getD i default) (i:=o.toNat) (d:=default) Bv;have nA:=hm.tj _ hl _ ho;have h1:=Ts _ out v 0 (z9 nA) h.v0 (by unfold bL;decide) (by rw[JN];exact h);have h2:=Tt hm r (i+1) _ _ (λj hj=>by
   have:=hg (j+1) (by simpa using hj);rwa [gY,show i+(j+1)=i+1+j by omega]at this) h1
  rw[cf,xV];simp only[je,gY,k9];rw[<- Int.add_assoc];rw[mo (g:=λj=>v9 ((m.cls.getD (i+(j+1)) default).getD (r.getD j 0).toNat default)) r.length λj _=>by rw[show i+1+j=i+(j+1) by omega]]at h2;exact h2
def qN(m:ah)(plan:List Int)(p:Pr):Int:=pB m p (plan.getD p.fst.toNat 0) (plan.getD p.snd.toNat 0)
def Tu{m:ah}{plan:List Int}(hp:FP m plan):∀ (l:List Pr) (out:List Int) (v:Int),(∀ p∈l,fG m p=true)->Sat m.rules out v ->
  Sat m.rules (rN m plan l out) (v+cM (λi=>qN m plan (l.getD i default)) l.length)
 |[],out,v,_,h=>by show Sat m.rules out (v+0);rw[JN];exact h
 |p::r,out,v,hg,h=>by
  rw[rN];have jl:=hg p Jy;obtain⟨q1,q2,q3,q4,q5⟩:=xR jl;have eL:=hp.len;have g1:=hp.get p.fst.toNat Bv;have g2:=hp.get p.snd.toNat Bv;have a1:=mj.1 g1;have a2:=mj.1 g2;rw[if_pos ⟨a1.2.2.1,a2.2.2.1⟩];have h2:=Tu hp r _ _ (λx hx=>hg x (by simp[hx])) (h.add q1 (C9 jl (plan.getD p.fst.toNat 0) (plan.getD p.snd.toNat 0)));rw[cf,xV];simp only[je,gY];rw[<- Int.add_assoc];exact h2
def wG(plan:List Int)(c:Ct):Int:=mN c.most c.bW (uJ plan c.bQ 0)
def Tv{m:ah}{plan:List Int}:∀ (l:List Ct) (out:List Int) (v:Int),(∀ c∈l,fP m c=true)->Sat m.rules out v ->
  Sat m.rules (rO plan l out) (v+cM (λi=>wG plan (l.getD i default)) l.length)
 |[],out,v,_,h=>by show Sat m.rules out (v+0);rw[JN];exact h
 |c::r,out,v,hg,h=>by
  rw[rO];obtain⟨q1,q2,q3,q4⟩:=uK (hg c Jy);have h2:=Tv (plan:=plan) r _ _ (λx hx=>hg x (by simp[hx])) (h.add q1 (G2 (most:=c.most) (sum:=uJ plan c.bQ 0) (pC q3)));rw[cf,xV];simp only[je,gY];rw[<- Int.add_assoc];exact h2
def tQ(m:ah)(plan:List Int)(j:Nat):Int:=v9 ((m.cls.getD j default).getD (plan.getD j 0).toNat default)
def abK{m:ah}{plan:List Int}(hv:VM m)(hp:FP m plan):tg (th m plan) 0 =
  min (cM (tQ m plan) m.cls.length+cM (λi=>qN m plan (m.aj.getD i default)) m.aj.length+cM (λi=>wG plan (m.aI.getD i default)) m.aI.length) 1099511627776:=by
 have h0:Sat m.rules (aD m.rules.toNat 0) 0:=by
  refine⟨im.rep hv.rP.1,aac,?_⟩;have:∀ k,gR (aD k 0)=0:=by
   intro k
   induction k with
   |zero=>rfl
   |succ k ih=>rw[List.replicate_succ,gR,ih];rfl
  rw[this]
 have h1:=Tt hv plan 0 _ _ (λj hj=>by rw[gw];exact hp.get j hj) h0;have h2:=Tu hp m.aj _ _ (lE hv.pr) h1;have h3:=Tv (plan:=plan) m.aI _ _ hv.ct h2;have abL:=Dm (Hi hv plan).2 (n:=0) (by unfold bL;decide);have he:=h3.eq;change min (gR (th m plan)) _=_ at he;rw[abL,BF,he,BF,hp.len];simp only[gw];rfl
def Sat.cut{R:Int}{out:List Int}{s d:Int}(h:Sat R out (s+d))(hs:bL s)(hd:bL d):Sat R out (eO s d):=by
 have:=xQ hs hd;unfold bL at this hs hd;exact h.le this.1 (by unfold eO;omega)
end T

