import Derived.Test.YtfoopmojjjpapaaGreatX17
set_option linter.all false
set_option maxHeartbeats 0
set_option maxRecDepth 20000
open List renaming getD_cons_zero→jc,getD_eq_getElem?_getD→ay,getElem?_eq_getElem→bx,length_cons→du,getD_cons_succ→gB,replicate→aK,getElem?_set→bU,getElem?_set_ne→gT,range→bn
open Bool renaming and_eq_true→bc
open Int renaming add_zero→QY,toNat_natCast→dg,zero_add→CP,mul_le_mul_of_nonneg_right→Hf,one_mul→KX,toNat_of_nonneg→w9,le_refl→nD,lt_or_le→KW
open Nat renaming add_zero→jK,zero_add→gR
open Option renaming getD_some→lR
open Go Go.Am
namespace T
def LO.eA{α:Type}{enc:α->List AV}{B:List (Nat×Ob)}{D E:List (Nat×Nat)}{S T:List (List α)}{os ob:List Ob}(h:LO enc B D E S T os)(k:iG os ob):LO enc B D E S T ob :=
 ⟨λb hb=>⟨k _ _ (h.base b hb).1,(h.base b hb).2⟩,⟨h.rD.len,λj hj=>⟨k _ _ (h.rD.row j hj).1,(h.rD.row j hj).2⟩⟩,⟨h.rE.len,λj hj=>⟨k _ _ (h.rE.row j hj).1,(h.rE.row j hj).2⟩⟩,h.nd⟩
def iG.trans{a b c:List Ob}(h:iG a b)(k:iG b c):iG a c:=λi o hi=>k i o (h i o hi)
def FY(b:List Bool):∀ (a:List Bool) (n:Nat),n<a.length*b.length->(sK a b).getD n false=(a.getD (n/b.length) false&&b.getD (n%b.length) false)
 |[],n,h=>by simp at h
 |x::r,n,h=>by
  have hb:0<b.length:=by
   rcases Nat.eq_zero_or_pos b.length with h0|h0
   ·rw[h0]at h;omega
   ·exact h0
  show((b.map (x && ·))++sK r b).getD n false=_;rcases Nat.lt_or_ge n b.length with hn|hn
  ·rw[Nat.div_eq_of_lt hn,Nat.mod_eq_of_lt hn,jc,ay,List.getElem?_append_left (by simpa using hn),List.getElem?_map,bx hn,ay,bx hn];rfl
  ·obtain⟨k,rfl⟩ :∃k,n=k+b.length:=⟨n-b.length,Ey⟩;have ih:=FY b r k (by rw[du,Nat.add_mul]at h;omega);rw[ay,List.getElem?_append_right (by simpa using hn),List.length_map,Nat.add_sub_cancel,<- ay,ih,Nat.add_div_right _ hb,Nat.add_mod_right,gB]
def xU(q:Int×Bool):Nm:=(q.1,!q.2)
def aaN(l:List Nm)(s:List Bool):u7 (kk l s)=xU (cW l s (0,false)):=ajd l s
def yZ(m:ah)(left:List (List Bool))(g:Lg):List (Int×Bool):=PC left g.1 m.cls.length++PP m left g.2 m.ae.length++PK m left m.aE.length
def abk(a b:List (Int×Bool))(z:Int×Bool):bV (a++b) z=bV b (bV a z):=by unfold bV;rw[List.foldl_append]
def ajt(m:ah)(left:List (List Bool))(g:Lg):mL m left g=if(bV (yZ m left g) (0,false)).2=true then 1099511627776 else min (bV (yZ m left g) (0,false)).1 1099511627776:=by
 unfold mL yZ;rw[abk,abk]
def Gc:∀ (l:List (Int×Bool)) (n:Int),(bV l (n,true)).2=true
 |[],_=>rfl
 |p::r,n=>Gc r _
def aaR:∀ (l:List (Int×Bool)) (n:Int),(bV l (n,false)).2=true↔∃ p∈l,p.2=false
 |[],_=>by simp[bV]
 |p::r,n=>by
  show(bV r (n+p.1,false||!p.2)).2=true↔_;cases hp:p.2 with
  |false =>
   simp only[Bool.not_false,Bool.or_true];exact⟨λ_=>⟨p,G9,hp⟩,λ_=>Gc r _⟩
  |true =>
   simp only[Bool.not_true,Bool.or_false];rw[aaR r];constructor
   ·rintro⟨q,hq,h⟩;exact⟨q,by simp[hq],h⟩
   ·rintro⟨q,hq,h⟩;rcases List.mem_cons.1 hq with rfl|hq
    ·rw[hp]at h;cases h
    ·exact⟨q,hq,h⟩
def ajw{m:ah}(hm:VM m){left:List (List Bool)}(hl:left.length=m.cls.length){c:Ct}(hc:c∈m.aE)(hw:∀ x∈c.bd,1<=x.wt/\x.wt<=1000):decide (1099511627776<=ju left c)=(decide (c.cA=1099511627776)&&decide (0<ju left c)):=by
 obtain⟨_,h2,h3,_⟩:=u6 (hm.ct c hc);have hs:=FG hw left;have bI:=hm.cls;have hp:1<=c.cA/\c.cA<=1048576\/c.cA=1099511627776:=by unfold jV at h3;rw[decide_eq_true_eq]at h3;omega
 unfold ju l7;generalize kE c.bd 0 left 0=n at *;rw[Bool.eq_iff_iff,bc,decide_eq_true_eq,decide_eq_true_eq,decide_eq_true_eq];split
 ·omega
 ·rcases hp with hp|hp
  ·have:(n-c.most)*c.cA<=24000*1048576:=Int.mul_le_mul Ey hp.2 Ey Ey;omega
  ·rw[hp];omega
def NY:∀ (l:List Nm) (s:List Bool),(kk l s).length<=l.length
 |[],s=>by cases s<;>simp[kk]
 |p::r,[]=>by simp[kk]
 |p::r,is::s=>by
  rw[kk,List.length_append,du];have:=NY r s;split<;>simp<;>omega
structure Sat(R:Int)(out:List Int)(v:Int):Prop where
 ok:mK R out
 v0:0<=v
 eq:min (k8 out) 1099511627776=min v 1099511627776
def abl:∀ (l:List Int) (i:Nat) (x:Int),i<l.length->k8 (l.set i x)=k8 l-l.getD i 0+x
 |[],i,x,h=>by simp at h
 |y::r,0,x,_=>by simp only[List.set_cons_zero,k8,jc];omega
 |y::r,i+1,x,h=>by
  have:=abl r i x (by simpa using h);simp only[List.set_cons_succ,k8,gB];omega
def Sat.add{R:Int}{out:List Int}{v r d:Int}(h:Sat R out v)(hr:0<=r/\r<R)(hd:bX d):Sat R (ja out r d) (v+d):=by
 have hlen:=h.ok.1;have hi:r.toNat<out.length:=Ey;have hs:=NC h.ok.2 _ (aF (d:=(0:Int)) hi);have iP:=abl out r.toNat (eM (out.getD r.toNat 0) d) hi;have hg:=h.ok.get r.toNat;have he:=h.eq;have hv:=h.v0;unfold bX at hg;have Ar:=hd;unfold bX at Ar;refine⟨h.ok.add hd,Ey,?_⟩;unfold ja;rw[iP];unfold eM;omega
def Sat.le{R:Int}{out:List Int}{v w:Int}(h:Sat R out v)(hw:0<=w)(e:min v 1099511627776=min w 1099511627776):Sat R out w:=⟨h.ok,hw,h.eq.trans e⟩
def abm{R:Int}:∀ (l:List (Int×Int)) (out:List Int) (v n:Int),(∀ c∈l,ki R c.1=true/\jV c.2=true)->0<=v->bX n->Sat R out (v+n)->Sat R (DE l out) (v+(l.map (·.2)).foldl eM n)
 |[],out,v,n,_,_,_,h=>h
 |c::r,out,v,n,hc,hv,fY,h=>by
  rw[DE];have h1:=hc c G9;have hr:=h1.1;rw[ki,decide_eq_true_eq]at hr;have hp:=wC h1.2;have h2:=h.add hr hp;refine abm r _ v (eM n c.2) (λx hx=>hc x (by simp[hx])) hv (FC fY hp) (h2.le ?_ ?_)
  ·have:=FC fY hp;unfold bX at this;omega
  ·unfold bX at hp fY;unfold eM;omega
def abn{m:ah}(hm:VM m):∀ (plan:List Int) (i:Nat) (out:List Int) (v:Int),(∀ j,j<plan.length->iD m ((i+j:Nat):Int) (plan.getD j 0)=true) ->
  Sat m.rules out v->Sat m.rules (DF m i plan out) (v+bQ (λj=>sJ ((m.cls.getD (i+j) default).getD (plan.getD j 0).toNat default)) plan.length)
 |[],i,out,v,_,h=>by show Sat m.rules out (v+0);rw[QY];exact h
 |o::r,i,out,v,hg,h=>by
  rw[DF];have h0:=hg 0 G9;rw[jc,jK]at h0;obtain⟨b1,b2,b3,b4⟩:=k0.1 h0;rw[dg]at b4;rw[if_neg Ey];have hl:=aF (l:=m.cls) (i:=i) (d:=default) Ey;have ho:=aF (l:=m.cls.getD i default) (i:=o.toNat) (d:=default) Ey;have lZ:=hm.tA _ hl _ ho;have h1:=abm _ out v 0 (IM lZ) h.v0 (by unfold bX;decide) (by rw[QY];exact h);have h2:=abn hm r (i+1) _ _ (λj hj=>by
   have:=hg (j+1) (by simpa using hj);rwa [gB,show i+(j+1)=i+1+j by omega]at this) h1
  rw[du,Ah];simp only[jc,gB,jK];rw[<- Int.add_assoc];rw[jv (g:=λj=>sJ ((m.cls.getD (i+(j+1)) default).getD (r.getD j 0).toNat default)) r.length λj _=>by rw[show i+1+j=i+(j+1) by omega]]at h2;exact h2
def vf(m:ah)(plan:List Int)(p:Pr):Int:=yR m p (plan.getD p.fst.toNat 0) (plan.getD p.snd.toNat 0)
def abo{m:ah}{plan:List Int}(hp:FP m plan):∀ (l:List Pr) (out:List Int) (v:Int),(∀ p∈l,iC m p=true)->Sat m.rules out v ->
  Sat m.rules (DG m plan l out) (v+bQ (λi=>vf m plan (l.getD i default)) l.length)
 |[],out,v,_,h=>by show Sat m.rules out (v+0);rw[QY];exact h
 |p::r,out,v,hg,h=>by
  rw[DG];have dY:=hg p G9;obtain⟨q1,q2,q3,q4,q5⟩:=rZ dY;have dG:=hp.len;have g1:=hp.get p.fst.toNat Ey;have g2:=hp.get p.snd.toNat Ey;have a1:=k0.1 g1;have a2:=k0.1 g2;rw[if_pos ⟨a1.2.2.1,a2.2.2.1⟩];have h2:=abo hp r _ _ (λx hx=>hg x (by simp[hx])) (h.add q1 (Nz dY (plan.getD p.fst.toNat 0) (plan.getD p.snd.toNat 0)));rw[du,Ah];simp only[jc,gB];rw[<- Int.add_assoc];exact h2
def vg(plan:List Int)(c:Ct):Int:=l7 c.most c.cA (Ae plan c.bd 0)
def abp{m:ah}{plan:List Int}:∀ (l:List Ct) (out:List Int) (v:Int),(∀ c∈l,jW m c=true)->Sat m.rules out v ->
  Sat m.rules (DH plan l out) (v+bQ (λi=>vg plan (l.getD i default)) l.length)
 |[],out,v,_,h=>by show Sat m.rules out (v+0);rw[QY];exact h
 |c::r,out,v,hg,h=>by
  rw[DH];obtain⟨q1,q2,q3,q4⟩:=u6 (hg c G9);have h2:=abp (plan:=plan) r _ _ (λx hx=>hg x (by simp[hx])) (h.add q1 (Ny (most:=c.most) (sum:=Ae plan c.bd 0) (wC q3)));rw[du,Ah];simp only[jc,gB];rw[<- Int.add_assoc];exact h2
def xX(m:ah)(plan:List Int)(j:Nat):Int:=sJ ((m.cls.getD j default).getD (plan.getD j 0).toNat default)
def akp{m:ah}{plan:List Int}(hv:VM m)(hp:FP m plan):yS (BN m plan) 0 =
  min (bQ (xX m plan) m.cls.length+bQ (λi=>vf m plan (m.ae.getD i default)) m.ae.length+bQ (λi=>vg plan (m.aE.getD i default)) m.aE.length) 1099511627776:=by
 have h0:Sat m.rules (aK m.rules.toNat 0) 0:=by
  refine⟨mK.rep hv.wm.1,Hg,?_⟩;have:∀ k,k8 (aK k 0)=0:=by
   intro k
   induction k with
   |zero=>rfl
   |succ k ih=>rw[List.replicate_succ,k8,ih];rfl
  rw[this]
 have h1:=abn hv plan 0 _ _ (λj hj=>by rw[gR];exact hp.get j hj) h0;have h2:=abo hp m.ae _ _ (kC hv.pr) h1;have h3:=abp (plan:=plan) m.aE _ _ hv.ct h2;have akq:=Z7 (ai2 hv plan).2 (n:=0) (by unfold bX;decide);have he:=h3.eq;change min (k8 (BN m plan)) _=_ at he;rw[akq,CP,he,CP,hp.len];simp only[gR];rfl
def abq(r:List Nm)(i q:Nat)(a:Int)(hi:i<r.length):(jZ r i a).getD q default=if i=q then((r.getD q default).1+a,(r.getD q default).2) else r.getD q default:=by
 unfold jZ;by_cases h:i=q
 ·subst h;rw[if_pos rfl];simp only[ay,bU,hi,if_true,lR]
 ·rw[if_neg h];simp only[ay,gT h]
def abr(r:List Nm){i q:Nat}(a:Int)(h:i≠q):(jZ r i a).getD q default=r.getD q default:=by
 unfold jZ;simp only[ay,gT h]
def Jo{f:Nat->Nat}{a:Int}{t:List Nm}{q:Nat}:∀ k:Nat,(∀ j,j<k->f j≠q)->(il f a k t).getD q default=t.getD q default
 |0,_=>rfl
 |k+1,h=>by rw[il,abr _ _ (h k Ey),Jo k λj hj=>h j Ey]
def Ox{f:Nat->Nat}{a:Int}{t:List Nm}{q j0:Nat}(h0:f j0=q)(hq:q<t.length):∀ k:Nat,j0<k->(∀ j,j<k->j≠j0->f j≠q)->(il f a k t).getD q default=((t.getD q default).1-a,(t.getD q default).2)
 |0,hk,_=>Ey
 |k+1,hk,h=>by
  rw[il];by_cases e:j0=k
  ·subst e;rw[h0,abq _ _ _ _ (by rw[B1];exact hq),if_pos rfl,Jo j0 λj hj=>h j Ey Ey];congr 1
  ·rw[abr _ _ (h k Ey Ey),Ox h0 hq k Ey λj hj=>h j Ey]
def Jp{a b n j k:Int}(hj:0<=j/\j<n)(hk:0<=k/\k<n)(h:a*n+j=b*n+k):a=b/\j=k:=by
 rcases Int.lt_trichotomy a b with hl|hl|hl
 ·have:(a+1)*n<=b*n:=Hf Ey Ey;rw[Int.add_mul,KX]at this;omega
 ·subst hl;omega
 ·have:(b+1)*n<=a*n:=Hf Ey Ey;rw[Int.add_mul,KX]at this;omega
def nS(plan:List Int)(g:Lg)(i:Nat):Nm:=(g.1.getD i default).getD (plan.getD i 0).toNat default
def As(m:ah)(plan:List Int)(p:Pr):Nat:=(plan.getD p.fst.toNat 0*(m.cls.getD p.snd.toNat default).length+plan.getD p.snd.toNat 0).toNat
def nU(m:ah)(plan:List Int)(g:Lg)(i:Nat):Nm:=(g.2.getD i default).getD (As m plan (m.ae.getD i default)) default
def Oy{α:Type}[Inhabited α](l:List α)(i j:Nat)(x:α)(hi:i<l.length):(l.set i x).getD j default=if i=j then x else l.getD j default:=by
 by_cases h:i=j
 ·subst h;rw[if_pos rfl];simp only[ay,bU,hi,if_true,lR]
 ·rw[if_neg h];simp only[ay,gT h]
structure Jq(m:ah)(x:Mv):Prop where
 p:0<=x.pair/\x.pair<m.ae.length
 s:x.side=0\/x.side=1
 c:0<=fq m x/\fq m x<m.cls.length
 o:0<=x.opt/\x.opt<(m.cls.getD (fq m x).toNat default).length
def akr{m:ah}{x:Mv}(h:jx m x=true):Jq m x:=by
 unfold jx at h;rw[bc,decide_eq_true_eq,k0]at h;exact⟨Ey,Ey,Ey,Ey⟩
def wK{m:ah}{plan:List Int}(hp:FP m plan){j:Nat}(hj:j<m.cls.length):0<=plan.getD j 0/\plan.getD j 0<(m.cls.getD j default).length:=by
 have h:=k0.1 (hp.get j (by rw[hp.len];exact hj));rw[dg]at h;exact h.2.2
abbrev Gd(m:ah)(plan:List Int)(x:Mv):Prop:=plan.getD (fq m x).toNat 0=x.opt
def aks{m:ah}{plan:List Int}(hp:FP m plan){B:Int}{g:Lg}(h:LG m B g){x:Mv}(hx:Jq m x)(i:Nat):
  nS plan (kl m x g) i=if i=(fq m x).toNat then(if Gd m plan x then((nS plan g i).1+x.amt,(nS plan g i).2) else nS plan g i) else nS plan g i:=by
 obtain⟨hxp,cJ,vX,xY⟩:=hx;have h1:=h.s;have h2:=h.sl (fq m x).toNat Ey;have h3:=wK hp (j:=(fq m x).toNat) Ey;unfold nS kl Gd;dsimp only;rw[Oy _ _ _ _ Ey];by_cases e:i=(fq m x).toNat
 ·subst e;rw[if_pos rfl,if_pos rfl,abq _ _ _ _ Ey];by_cases e2:plan.getD (fq m x).toNat 0=x.opt
  ·rw[if_pos e2,if_pos (by rw[e2])]
  ·rw[if_neg e2,if_neg Ey]
 ·rw[if_neg (Ne.symm e),if_neg e]
def aku{m:ah}(hm:VM m){plan:List Int}(hp:FP m plan){B:Int}{g:Lg}(h:LG m B g){x:Mv}(hx:Jq m x)(i:Nat):
  nU m plan (kl m x g) i=if i=x.pair.toNat then(if Gd m plan x then((nU m plan g i).1-x.amt,(nU m plan g i).2) else nU m plan g i) else nU m plan g i:=by
 obtain⟨hxp,cJ,vX,xY⟩:=hx;have h1:=h.t;have h2:=h.tl x.pair.toNat Ey;unfold nU kl;dsimp only;rw[Oy _ _ _ _ Ey];by_cases e:i=x.pair.toNat;rotate_left
 ·rw[if_neg (Ne.symm e),if_neg e]
 subst e;rw[if_pos rfl,if_pos rfl];have dY:=kC hm.pr _ (aF (l:=m.ae) (i:=x.pair.toNat) (d:=default) Ey);unfold Gd;unfold fq at *;unfold pw As;generalize m.ae.getD x.pair.toNat default=p at *;obtain⟨q1,q2,q3,q4,q5⟩:=rZ dY;have ha:=wK hp (j:=p.fst.toNat) Ey;have hb:=wK hp (j:=p.snd.toNat) Ey;have hl1:=hm.opt _ (aF (l:=m.cls) (i:=p.fst.toNat) (d:=default) Ey);have tg:=hm.opt _ (aF (l:=m.cls) (i:=p.snd.toNat) (d:=default) Ey);generalize g.2.getD x.pair.toNat default=t at *;generalize Oz:plan.getD p.fst.toNat 0=a at *;generalize lX:plan.getD p.snd.toNat 0=b at *;generalize Ge:(m.cls.getD p.fst.toNat default).length=na at *;generalize akv:(m.cls.getD p.snd.toNat default).length=nb at *;have kI:=BO (x:=a) (y:=b) (a:=na) (b:=nb) ha hb Ey Ey;rcases cJ with hs|hs
 ·rw[if_pos hs]at vX xY;rw[if_pos hs,if_pos hs,Oz];rw[Ge]at xY;dsimp only;have Je:=BO (x:=x.opt) (y:=b) (a:=na) (b:=nb) xY hb Ey Ey;by_cases e2:a=x.opt
  ·rw[if_pos e2];refine Ox (j0:=b.toNat) ?_ Ey nb Ey λj hj cE he=>?_
   ·rw[e2,w9 hb.1]
   ·have:=Jp (a:=x.opt) (b:=a) (n:=nb) (j:=j) (k:=b) Ey Ey Ey;omega
  ·rw[if_neg e2];refine Jo nb λj hj he=>?_;have:=Jp (a:=x.opt) (b:=a) (n:=nb) (j:=j) (k:=b) Ey Ey Ey;omega
 ·rw[if_neg Ey]at vX xY;have yQ:¬ x.side=0:=Ey;rw[if_neg yQ,if_neg yQ,lX];rw[akv]at xY;dsimp only;by_cases e2:b=x.opt
  ·rw[if_pos e2];refine Ox (j0:=a.toNat) ?_ Ey na Ey λj hj cE he=>?_
   ·rw[e2,w9 ha.1]
   ·have zQ:=BO (x:=(j:Int)) (y:=x.opt) (a:=na) (b:=nb) Ey xY Ey Ey;have:=Jp (a:=(j:Int)) (b:=a) (n:=nb) (j:=x.opt) (k:=b) Ey Ey Ey;omega
  ·rw[if_neg e2];refine Jo na λj hj he=>?_;have zQ:=BO (x:=(j:Int)) (y:=x.opt) (a:=na) (b:=nb) Ey xY Ey Ey;have:=Jp (a:=(j:Int)) (b:=a) (n:=nb) (j:=x.opt) (k:=b) Ey Ey Ey;omega
def Au(m:ah)(plan:List Int)(g:Lg):Int:=bQ (λi=>(nS plan g i).1) m.cls.length+bQ (λi=>(nU m plan g i).1) m.ae.length
def akw{m:ah}(hm:VM m){plan:List Int}(hp:FP m plan){B:Int}{g:Lg}(h:LG m B g){x:Mv}(hx:Jq m x):
  Au m plan (kl m x g)=Au m plan g/\(∀ i,(nS plan (kl m x g) i).2=(nS plan g i).2)/\∀ i,(nU m plan (kl m x g) i).2=(nU m plan g i).2:=by
 have hS:=aks hp h hx;have hT:=aku hm hp h hx;refine⟨?_,λi=>?_,λi=>?_⟩
 ·unfold Au;by_cases hh:Gd m plan x
  ·rw[jv (g:=λi=>if i=(fq m x).toNat then(nS plan g i).1+x.amt else(nS plan g i).1) m.cls.length λi _=>by
    rw[hS,if_pos hh];split<;>rfl,jv (g:=λi=>if i=x.pair.toNat then(nU m plan g i).1+-x.amt else(nU m plan g i).1) m.ae.length λi _=>by
    rw[hT,if_pos hh];split<;>rfl,Ag,Ag,if_pos (by have:=hx.c;omega),if_pos (by have:=hx.p;omega)]
   omega
  ·rw[jv (g:=λi=>(nS plan g i).1) m.cls.length λi _=>by rw[hS,if_neg hh];simp,jv (g:=λi=>(nU m plan g i).1) m.ae.length λi _=>by rw[hT,if_neg hh];simp]
 ·rw[hS];split<;>(try split)<;>rfl
 ·rw[hT];split<;>(try split)<;>rfl
def abt{m:ah}(hm:VM m){plan:List Int}(hp:FP m plan):∀ (l:List Mv) (B:Int) (g:Lg),0<=B->LG m B g->(∀ x∈l,jx m x=true) ->
  Au m plan (j1 m l g)=Au m plan g/\(∀ i,(nS plan (j1 m l g) i).2=(nS plan g i).2)/\∀ i,(nU m plan (j1 m l g) i).2=(nU m plan g i).2
 |[],B,g,_,_,_=>⟨rfl,λ_=>rfl,λ_=>rfl⟩
 |x::r,B,g,hB,h,hx=>by
  have h1:=akw hm hp h (akr (hx x G9));have h2:=abt hm hp r _ (kl m x g) Ey (aar hm hB h (hx x G9)) (λy hy=>hx y (by simp[hy]));exact⟨h2.1.trans h1.1,λi=>(h2.2.1 i).trans (h1.2.1 i),λi=>(h2.2.2 i).trans (h1.2.2 i)⟩
def Jr:∀ (l:List Nm) (s:List Bool) (b:Int×Bool),b.2=true->(cW l s b).2=true/\(cW l s b).1<=b.1
 |[],s,b,h=>by cases s<;>exact⟨h,nD _⟩
 |p::r,[],b,h=>⟨h,nD _⟩
 |p::r,is::s,b,h=>by
  rw[cW];split
  ·rename_i hc;have h2:=Jr r s (p.1,true) rfl;have h3:p.1<b.1:=by
    rcases hc.2.2 with h4|h4
    ·rw[h]at h4;cases h4
    ·exact h4
   exact⟨h2.1,by have:=h2.2;dsimp only at this;omega⟩
  ·exact Jr r s b h
def abu:∀ (l:List Nm) (s:List Bool) (b:Int×Bool) (i:Nat),i<l.length->s.getD i false=true->(l.getD i default).2=false->(cW l s b).2=true/\(cW l s b).1<=(l.getD i default).1
 |[],s,b,i,h,_,_=>by simp at h
 |p::r,[],b,i,_,h,_=>by simp at h
 |p::r,is::s,b,0,_,h1,h2=>by
  rw[jc]at h1 h2 ⊢;rw[cW];split
  ·exact Jr r s (p.1,true) rfl
  ·rename_i hc;have hb:b.2=true/\b.1<=p.1:=by
    cases lG:b.2 with
    |false=>exact absurd ⟨h1,h2,.inl lG⟩ hc
    |true=>exact⟨rfl,by rcases KW p.1 b.1 with h|h;exact absurd ⟨h1,h2,.inr h⟩ hc;exact h⟩
   have:=Jr r s b hb.1;exact⟨this.1,Ey⟩
 |p::r,is::s,b,i+1,h,h1,h2=>by
  rw[gB]at h1 h2 ⊢;rw[cW];exact abu r s _ i (by simpa using h) h1 h2
def abv:∀ (l:List Nm) (s:List Bool) (b:Int×Bool),(∀ i,s.getD i false=false)->cW l s b=b
 |[],s,b,_=>by cases s<;>rfl
 |p::r,[],b,_=>rfl
 |p::r,is::s,b,h=>by
  have h0:=h 0;rw[jc]at h0;rw[cW,if_neg (by rw[h0];simp)];exact abv r s b λi=>by have:=h (i+1);rwa [gB]at this
def OA:∀ (l:List Nm) (s:List Bool) (b:Int×Bool) (i:Nat),i<l.length->(∀ j,s.getD j false=decide (j=i))->b.2=false ->
  cW l s b=if(l.getD i default).2=false then((l.getD i default).1,true) else b
 |[],s,b,i,h,_,_=>by simp at h
 |p::r,[],b,i,_,h,_=>by have:=h i;simp at this
 |p::r,is::s,b,0,_,h,hb=>by
  have h0:=h 0;rw[jc,decide_eq_true rfl]at h0;rw[jc,cW,abv r s _ λi=>by have:=h (i+1);rw[gB]at this;rw[this];simp];by_cases hp:p.2=false
  ·rw[if_pos ⟨h0,hp,.inl hb⟩,if_pos hp]
  ·rw[if_neg (λhc=>hp hc.2.1),if_neg hp]
 |p::r,is::s,b,i+1,hi,h,hb=>by
  have h0:=h 0;rw[jc,decide_eq_false Ey]at h0;rw[gB,cW,if_neg (by rw[h0];simp)];exact OA r s b i (by simpa using hi) (λj=>by have:=h (j+1);rw[gB]at this;rw[this];simp) hb
def Js(f:Nat->Int×Bool)(z:Int×Bool):∀ n,(bV ((bn n).map f) z).1=z.1+bQ (λi=>(f i).1) n
 |0=>by simp[bV,bQ]
 |n+1=>by rw[Ak,DO,bQ];dsimp only;rw[Js f z n];omega
def Ca(f:Nat->Int×Bool)(z:Int×Bool):∀ n,(bV ((bn n).map f) z).2=true↔(z.2=true\/∃ i,i<n/\(f i).2=false)
 |0=>by simp[bV]
 |n+1=>by
  rw[Ak,DO];dsimp only;rw[Bool.or_eq_true,Ca f z n,Bool.not_eq_true'];constructor
  ·rintro((h|⟨i,hi,h⟩)|h)
   ·exact .inl h
   ·exact .inr ⟨i,Ey,h⟩
   ·exact .inr ⟨n,Ey,h⟩
  ·rintro(h|⟨i,hi,h⟩)
   ·exact .inl (.inl h)
   ·by_cases e:i=n
    ·subst e;exact .inr h
    ·exact .inl (.inr ⟨i,Ey,h⟩)
def tQ(left:List (List Bool))(g:Lg)(i:Nat):Int×Bool:=cW (g.1.getD i default) (left.getD i default) (0,false)
def tR(m:ah)(left:List (List Bool))(g:Lg)(i:Nat):Int×Bool:=cW (g.2.getD i default) (jb m left i) (0,false)
def qn(m:ah)(left:List (List Bool))(i:Nat):Int×Bool:=(ju left (m.aE.getD i default),!(decide ((m.aE.getD i default).cA=1099511627776)&&decide (0<ju left (m.aE.getD i default))))
def Gf(m:ah)(left:List (List Bool))(g:Lg):Int:=bQ (λi=>(tQ left g i).1) m.cls.length+bQ (λi=>(tR m left g i).1) m.ae.length+bQ (λi=>(qn m left i).1) m.aE.length
def Jt(m:ah)(left:List (List Bool))(g:Lg):Prop:=(∃ i,i<m.cls.length/\(tQ left g i).2=false)\/(∃ i,i<m.ae.length/\(tR m left g i).2=false)\/∃ i,i<m.aE.length/\(qn m left i).2=false
def abw{m:ah}{left:List (List Bool)}{g:Lg}(h:Jt m left g):mL m left g=1099511627776:=by
 unfold mL;rw[if_pos];show(bV ((bn m.aE.length).map (qn m left)) (bV ((bn m.ae.length).map (tR m left g)) (bV ((bn m.cls.length).map (tQ left g)) (0,false)))).2=true;rw[Ca,Ca,Ca];rcases h with h|h|h
 ·exact .inl (.inl (.inr h))
 ·exact .inl (.inr h)
 ·exact .inr h
def OB{m:ah}{left:List (List Bool)}{g:Lg}(h:¬ Jt m left g):mL m left g=min (Gf m left g) 1099511627776:=by
 have h1:¬ (bV ((bn m.aE.length).map (qn m left)) (bV ((bn m.ae.length).map (tR m left g)) (bV ((bn m.cls.length).map (tQ left g)) (0,false)))).2=true:=by
  rw[Ca,Ca,Ca];rintro(((h2|h2)|h2)|h2)
  ·cases h2
  ·exact h (.inl h2)
  ·exact h (.inr (.inl h2))
  ·exact h (.inr (.inr h2))
 have h2:(bV ((bn m.aE.length).map (qn m left)) (bV ((bn m.ae.length).map (tR m left g)) (bV ((bn m.cls.length).map (tQ left g)) (0,false)))).1=Gf m left g:=by
  rw[Js,Js,Js];unfold Gf;dsimp only;omega
 show(if(bV ((bn m.aE.length).map (qn m left)) (bV ((bn m.ae.length).map (tR m left g)) (bV ((bn m.cls.length).map (tQ left g)) (0,false)))).2=true then(1099511627776:Int) else min (bV ((bn m.aE.length).map (qn m left)) (bV ((bn m.ae.length).map (tR m left g)) (bV ((bn m.cls.length).map (tQ left g)) (0,false)))).1 1099511627776)=_;rw[if_neg h1,h2]
def akx(m:ah)(left:List (List Bool))(g:Lg):mL m left g<=1099511627776:=by
 unfold mL;split<;>omega
def Ju:∀ (l:List Ld) (c o w:Int),(∀ y∈l,¬ (y.cls=c/\y.opt=o))->gy l c o w=w
 |[],_,_,_,_=>rfl
 |x::r,c,o,w,h=>by rw[gy,if_neg (h x G9),Ju r c o w λy hy=>h y (by simp[hy])]
def abx{m:ah}:∀ {l:List Ld} {q:Option Ld} (c o:Int),eZ m q l=true->gy l c o 0=wF l c o
 |[],_,_,_,_=>rfl
 |x::r,q,c,o,h=>by
  have hr:eZ m (some x) r=true:=by
   cases q<;>rw[eZ]at h<;>simp only[bc]at h<;>exact h.2
  rw[gy,wF];by_cases e:x.cls=c/\x.opt=o
  ·rw[if_pos e,if_pos e];exact Ju r c o _ λy hy he=>by have:=An hr y hy;omega
  ·rw[if_neg e,if_neg e];exact abx c o hr
def aby(l:List Ld):∀ (plan:List Int) (i:Nat),vd l i plan=bQ (λj=>wF l (i+j:Nat) (plan.getD j 0)) plan.length
 |[],i=>rfl
 |o::r,i=>by
  rw[vd,aby l r (i+1),du,Ah];simp only[jc,gB,jK];rw[jv (g:=λj=>wF l (i+(j+1):Nat) (r.getD j 0)) r.length λj _=>by rw[show i+1+j=i+(j+1) by omega]]
def D0{l:List Ld}(h:∀ x∈l,1<=x.wt/\x.wt<=1000)(c:Int):∀ (row:List Bool) (o:Nat) (b:Int),0<=b->0<=ef l c o row b/\ef l c o row b<=b
 |[],_,b,hb=>⟨hb,nD _⟩
 |is::r,o,b,hb=>by
  rw[ef];have hw:=BT h c o 0 Ey;split
  ·rename_i hc;have:=D0 h c r (o+1) (gy l c o 0) hw.1;omega
  ·exact D0 h c r (o+1) b hb
def Jv{l:List Ld}(h:∀ x∈l,1<=x.wt/\x.wt<=1000)(c:Int):∀ (row:List Bool) (o:Nat) (b:Int) (i:Nat),row.getD i false=true->ef l c o row b<=gy l c (o+i:Nat) 0
 |[],_,b,i,hi=>by simp at hi
 |is::r,o,b,0,hi=>by
  rw[jc]at hi;have hw:=BT h c o 0 Ey;rw[ef];simp only[jK];split
  ·exact(D0 h c r (o+1) _ hw.1).2
  ·rename_i hc;have hb:0<=b/\b<=gy l c o 0:=by
    constructor
    ·rcases KW b 0 with h2|h2
     ·exact absurd ⟨hi,.inl h2⟩ hc
     ·exact h2
    ·rcases KW (gy l c o 0) b with h2|h2
     ·exact absurd ⟨hi,.inr h2⟩ hc
     ·exact h2
   have:=D0 h c r (o+1) b hb.1;omega
 |is::r,o,b,i+1,hi=>by
  rw[gB]at hi;rw[ef,show o+(i+1)=o+1+i by omega];exact Jv h c r (o+1) _ i hi
def OC(l:List Ld)(c:Int):∀ (row:List Bool) (o:Nat) (b:Int),(∀ i,row.getD i false=false)->ef l c o row b=b
 |[],_,_,_=>rfl
 |is::r,o,b,h=>by
  have h0:=h 0;rw[jc]at h0;rw[ef,if_neg (by rw[h0];simp)];exact OC l c r (o+1) b λi=>by have:=h (i+1);rwa [gB]at this
def abz(l:List Ld)(c:Int):∀ (row:List Bool) (o:Nat) (i:Nat),(∀ j,row.getD j false=decide (j=i))->ef l c o row (-1)=gy l c (o+i:Nat) 0
 |[],_,i,h=>by have:=h i;simp at this
 |is::r,o,0,h=>by
  have h0:=h 0;rw[jc,decide_eq_true rfl]at h0;rw[ef,if_pos ⟨h0,.inl Hg⟩,jK];exact OC l c r (o+1) _ λj=>by have:=h (j+1);rw[gB]at this;rw[this];simp
 |is::r,o,i+1,h=>by
  have h0:=h 0;rw[jc,decide_eq_false Ey]at h0;rw[ef,if_neg (by rw[h0];simp),show o+(i+1)=o+1+i by omega];exact abz l c r (o+1) i λj=>by have:=h (j+1);rw[gB]at this;rw[this];simp
end T

