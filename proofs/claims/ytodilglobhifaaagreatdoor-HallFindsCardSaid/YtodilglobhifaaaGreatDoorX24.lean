import Derived.Test.YtodilglobhifaaaGreatDoorX22
import Derived.Test.YtodilglobhifaaaGreatDoorX19
set_option linter.all false
set_option maxHeartbeats 0
set_option maxRecDepth 20000
open Nat renaming lt_or_ge→dD,add_zero→kX,zero_add→gM
open List renaming getD_eq_getElem?_getD→aw,getElem?_eq_none→iF,mem_or_eq_of_mem_set→qW,getElem?_set→cj,getElem?_set_ne→dq,length_set→bt,mem_map→cN,length_cons→cK,getD_cons_zero→jm,getD_cons_succ→jK,replicate→ax
open Option renaming getD_some→dK
open Bool renaming and_eq_true→bd,not_eq_true'→g7
open Int renaming add_zero→Hq,toNat_natCast→dz,zero_add→Dv,mul_le_mul_of_nonneg_right→Dq,toNat_of_nonneg→oR
open Go Go.Am
namespace T
def S0(m:ah):List (List Nm):=m.cls.map λl=>vo (Fq l)
def T0(m:ah):List (List Nm):=m.ae.map λp=>vo p.bg
def rT(r:List Nm)(i:Nat)(a:Int):List Nm:=r.set i ((r.getD i default).1+a,(r.getD i default).2)
def pE(f:Nat->Nat)(a:Int):Nat->List Nm->List Nm
 |0,t=>t
 |k+1,t=>rT (pE f a k t) (f k) (-a)
abbrev Lg:=List (List Nm)×List (List Nm)
def zp(m:ah)(x:Mv):(Nat->Nat)×Nat :=
 if x.side=0 then(λk=>(x.opt*(m.cls.getD (m.ae.getD x.pair.toNat default).snd.toNat default).length+k).toNat,(m.cls.getD (m.ae.getD x.pair.toNat default).snd.toNat default).length)
 else(λk=>((k:Int)*(m.cls.getD (m.ae.getD x.pair.toNat default).snd.toNat default).length+x.opt).toNat,(m.cls.getD (m.ae.getD x.pair.toNat default).fst.toNat default).length)
def mf(m:ah)(x:Mv)(g:Lg):Lg :=
 (g.1.set (mQ m x).toNat (rT (g.1.getD (mQ m x).toNat default) x.opt.toNat x.rU),g.2.set x.pair.toNat (pE (zp m x).1 x.rU (zp m x).2 (g.2.getD x.pair.toNat default)))
def tx(m:ah)(l:List Mv)(g:Lg):Lg:=l.foldl (λg x=>mf m x g) g
def NB(B:Int)(r:List Nm):Prop:=∀ p∈r,-B<=p.1/\p.1<=B
def NB.get{B:Int}{r:List Nm}(h:NB B r)(hB:0<=B)(i:Nat): -B<=(r.getD i default).1/\(r.getD i default).1<=B:=by
 rcases dD i r.length with hi|hi
 ·exact h _ (aG hi)
 ·rw[aw,iF hi];show -B<=(0:Int)/\(0:Int)<=B;omega
def NB.mono{B C:Int}{r:List Nm}(h:NB B r)(hc:B<=C):NB C r:=λp hp=>by have:=h p hp;omega
def NB.add{B:Int}{r:List Nm}(h:NB B r)(hB:0<=B)(i:Nat){a:Int}(ha : -268435456<=a/\a<=268435456):NB (B+268435456) (rT r i a):=λp hp=>by
 rcases qW hp with h'|h'
 ·have:=h p h';omega
 ·have:=h.get hB i;rw[h'];dsimp only;omega
def OX(r:List Nm)(i:Nat)(a:Int):(rT r i a).length=r.length:=by simp[rT]
def Fs(f:Nat->Nat)(a:Int):∀ (k:Nat) (t:List Nm),(pE f a k t).length=t.length
 |0,t=>rfl
 |k+1,t=>by rw[pE,OX,Fs f a k t]
def NB.sub{B:Int}{r:List Nm}(h:NB B r)(hB:0<=B)(f:Nat->Nat){a:Int}(ha : -268435456<=a/\a<=268435456):∀ k:Nat,NB (B+268435456*k) (pE f a k r)
 |0=>by simpa [pE] using h
 |k+1=>by
  rw[pE];have:=(NB.sub h hB f ha k).add Ay (f k) (a:=-a) Ay;exact this.mono Ay
structure LG(m:ah)(B:Int)(g:Lg):Prop where
 s:g.1.length=m.cls.length
 t:g.2.length=m.ae.length
 sl:∀ i,i<m.cls.length->(g.1.getD i default).length=(m.cls.getD i default).length
 tl:∀ i,i<m.ae.length->(g.2.getD i default).length=(m.ae.getD i default).bg.length
 sb:∀ r∈g.1,NB B r
 tb:∀ r∈g.2,NB B r
def OY{g:List (List Nm)}{i j:Nat}{r:List Nm}(h:r.length=(g.getD i default).length):((g.set i r).getD j default).length=(g.getD j default).length:=by
 by_cases e:i=j
 ·subst e;rcases dD i g.length with hi|hi
  ·simp only[aw,cj,hi,if_true,dK];rw[h,aw]
  ·rw[List.set_eq_of_length_le hi]
 ·simp only[aw,dq e]
def OZ{B:Int}{g:List (List Nm)}(h:∀ r∈g,NB B r)(i:Nat):NB B (g.getD i default):=by
 rcases dD i g.length with hi|hi
 ·exact h _ (aG hi)
 ·rw[aw,iF hi];intro p hp;cases hp
def Vw{m:ah}(hm:VM m)(x:Mv):(zp m x).2<=24:=by
 have:∀ i,(m.cls.getD i default).length<=24:=λi=>by
  rcases dD i m.cls.length with hi|hi
  ·exact hm.opt _ (aG hi)
  ·rw[aw,iF hi];exact Nat.zero_le _
 unfold zp;split<;>exact this _
def O0{m:ah}(hm:VM m){B:Int}(hB:0<=B){g:Lg}(h:LG m B g){x:Mv}(hx:tA m x=true):LG m (B+268435456*25) (mf m x g):=by
 unfold tA at hx;rw[bd,decide_eq_true_eq]at hx;have ha:=hx.1.2.2.2.2;have hk:=Vw hm x;refine⟨by rw[mf,bt];exact h.s,by rw[mf,bt];exact h.t,λi hi=>?_,λi hi=>?_,λr hr=>?_,λr hr=>?_⟩
 ·rw[mf];dsimp only;rw[OY (by rw[OX])];exact h.sl i hi
 ·rw[mf];dsimp only;rw[OY (by rw[Fs])];exact h.tl i hi
 ·rcases qW hr with h'|h'
  ·exact(h.sb r h').mono Ay
  ·rw[h'];exact((OZ h.sb _).add hB _ ha).mono Ay
 ·rcases qW hr with h'|h'
  ·exact(h.tb r h').mono Ay
  ·rw[h'];exact((OZ h.tb _).sub hB _ ha _).mono Ay
def O1{l:List Int}(h:∀ x∈l,b9 x):NB 1099511627776 (vo l):=λp hp=>by
 obtain⟨x,hx,rfl⟩:=cN.1 hp;have:=h x hx;unfold b9 at this;show -1099511627776<=x/\x<=1099511627776;omega
def Vx{m:ah}{p:Pr}(hp:gm m p=true):∀ x∈p.bg,b9 x:=λx hx=>by
 unfold gm at hp;simp only[bd,g7,List.any_eq_false]at hp;have:=hp.2 _ hx;rw[l6]at this;simp only[bd,g7,decide_eq_true_eq,not_and,Bool.not_eq_false]at this;by_cases hz:x=0
 ·subst hz;unfold b9;decide
 ·exact qz (this hz)
def vp{α β:Type}[Inhabited α][Inhabited β](f:α->β)(l:List α)(i:Nat)(h:i<l.length):(l.map f).getD i default=f (l.getD i default):=by
 rw[aw,List.getElem?_map,aw,List.getElem?_eq_getElem h];rfl
def O2{m:ah}(hm:VM m):LG m 1099511627776 (S0 m,T0 m):=by
 refine⟨by simp[S0],by simp[T0],λi hi=>?_,λi hi=>?_,λr hr=>?_,λr hr=>?_⟩
 ·show((S0 m).getD i default).length=_;rw[S0,vp _ _ _ hi];simp[vo,Fq]
 ·show((T0 m).getD i default).length=_;rw[T0,vp _ _ _ hi];simp[vo]
 ·obtain⟨l,hl,rfl⟩:=cN.1 hr;refine O1 λx hx=>?_;obtain⟨o,ho,rfl⟩:=cN.1 hx;exact O3 (hm.u6 l hl o ho)
 ·obtain⟨p,hp,rfl⟩:=cN.1 hr;exact O1 (Vx (nr hm.pr p hp))
def Vy{m:ah}(hm:VM m)(l:List Mv)(hl:∀ x∈l,tA m x=true):LG m (1099511627776+268435456*25*l.length) (tx m l (S0 m,T0 m)):=by
 have key:∀ (l:List Mv) (B:Int) (g:Lg),0<=B->(∀ x∈l,tA m x=true)->LG m B g->LG m (B+268435456*25*l.length) (tx m l g):=by
  intro l
  induction l with
  |nil=>intro B g _ _ h;simpa [tx] using h
  |cons x r ih =>
   intro B g hB hx h;have h1:=O0 hm hB h (hx x Dg);have h2:=ih _ _ Ay (λy hy=>hx y (by simp[hy])) h1;show LG m _ (tx m r (mf m x g));have e:B+268435456*25+268435456*25*(r.length:Int)=B+268435456*25*((x::r).length:Int):=by simp only[cK];omega
   rw[e]at h2;exact h2
 exact key l _ _ Ha hl (O2 hm)
def LO.cO{α:Type}{enc:α->List AV}{B:List (Nat×Ob)}{D E:List (Nat×Nat)}{S T:List (List α)}{os ob:List Ob}(h:LO enc B D E S T os)(k:eX os ob):LO enc B D E S T ob :=
 ⟨λb hb=>⟨k _ _ (h.base b hb).1,(h.base b hb).2⟩,⟨h.rD.len,λj hj=>⟨k _ _ (h.rD.row j hj).1,(h.rD.row j hj).2⟩⟩,⟨h.rE.len,λj hj=>⟨k _ _ (h.rE.row j hj).1,(h.rE.row j hj).2⟩⟩,h.nd⟩
def eX.trans{a b c:List Ob}(h:eX a b)(k:eX b c):eX a c:=λi o hi=>k i o (h i o hi)
structure Sat(R:Int)(out:List Int)(v:Int):Prop where
 ok:gG R out
 v0:0<=v
 eq:min (gw out) 1099511627776=min v 1099511627776
def O4:∀ (l:List Int) (i:Nat) (x:Int),i<l.length->gw (l.set i x)=gw l-l.getD i 0+x
 |[],i,x,h=>by simp at h
 |y::r,0,x,_=>by simp only[List.set_cons_zero,gw,jm];omega
 |y::r,i+1,x,h=>by
  have:=O4 r i x (by simpa using h);simp only[List.set_cons_succ,gw,jK];omega
def Sat.add{R:Int}{out:List Int}{v r d:Int}(h:Sat R out v)(hr:0<=r/\r<R)(hd:b9 d):Sat R (fA out r d) (v+d):=by
 have hlen:=h.ok.1;have hi:r.toNat<out.length:=Ay;have hs:=Ft h.ok.2 _ (aG (d:=(0:Int)) hi);have km:=O4 out r.toNat (gX (out.getD r.toNat 0) d) hi;have hg:=h.ok.get r.toNat;have he:=h.eq;have hv:=h.v0;unfold b9 at hg;have gx:=hd;unfold b9 at gx;refine⟨h.ok.add hd,Ay,?_⟩;unfold fA;rw[km];unfold gX;omega
def Sat.le{R:Int}{out:List Int}{v w:Int}(h:Sat R out v)(hw:0<=w)(e:min v 1099511627776=min w 1099511627776):Sat R out w:=⟨h.ok,hw,h.eq.trans e⟩
def O5{R:Int}:∀ (l:List (Int×Int)) (out:List Int) (v n:Int),(∀ c∈l,gY R c.1=true/\fw c.2=true)->0<=v->b9 n->Sat R out (v+n)->Sat R (rG l out) (v+(l.map (·.2)).foldl gX n)
 |[],out,v,n,_,_,_,h=>h
 |c::r,out,v,n,hc,hv,lV,h=>by
  rw[rG];have h1:=hc c Dg;have hr:=h1.1;rw[gY,decide_eq_true_eq]at hr;have hp:=qz h1.2;have h2:=h.add hr hp;refine O5 r _ v (gX n c.2) (λx hx=>hc x (by simp[hx])) hv (yS lV hp) (h2.le ?_ ?_)
  ·have:=yS lV hp;unfold b9 at this;omega
  ·unfold b9 at hp lV;unfold gX;omega
def O6{m:ah}(hm:VM m):∀ (plan:List Int) (i:Nat) (out:List Int) (v:Int),(∀ j,j<plan.length->iN m ((i+j:Nat):Int) (plan.getD j 0)=true) ->
  Sat m.rules out v->Sat m.rules (np m i plan out) (v+cM (λj=>zq ((m.cls.getD (i+j) default).getD (plan.getD j 0).toNat default)) plan.length)
 |[],i,out,v,_,h=>by show Sat m.rules out (v+0);rw[Hq];exact h
 |o::r,i,out,v,hg,h=>by
  rw[np];have h0:=hg 0 Dg;rw[jm,kX]at h0;obtain⟨b1,b2,b3,b4⟩:=qA.1 h0;rw[dz]at b4;rw[if_neg Ay];have hl:=aG (l:=m.cls) (i:=i) (d:=default) Ay;have ho:=aG (l:=m.cls.getD i default) (i:=o.toNat) (d:=default) Ay;have tB:=hm.u6 _ hl _ ho;have h1:=O5 _ out v 0 (yU tB) h.v0 (by unfold b9;decide) (by rw[Hq];exact h);have h2:=O6 hm r (i+1) _ _ (λj hj=>by
   have:=hg (j+1) (by simpa using hj);rwa [jK,show i+(j+1)=i+1+j by omega]at this) h1
  rw[cK,zr];simp only[jm,jK,kX];rw[<- Int.add_assoc];rw[oL (g:=λj=>zq ((m.cls.getD (i+(j+1)) default).getD (r.getD j 0).toNat default)) r.length λj _=>by rw[show i+1+j=i+(j+1) by omega]]at h2;exact h2
def pF(m:ah)(plan:List Int)(p:Pr):Int:=nq m p (plan.getD p.fst.toNat 0) (plan.getD p.snd.toNat 0)
def O7{m:ah}{plan:List Int}(hp:FP m plan):∀ (l:List Pr) (out:List Int) (v:Int),(∀ p∈l,gm m p=true)->Sat m.rules out v ->
  Sat m.rules (qw m plan l out) (v+cM (λi=>pF m plan (l.getD i default)) l.length)
 |[],out,v,_,h=>by show Sat m.rules out (v+0);rw[Hq];exact h
 |p::r,out,v,hg,h=>by
  rw[qw];have ny:=hg p Dg;obtain⟨q1,q2,q3,q4,q5⟩:=u7 ny;have lY:=hp.len;have g1:=hp.get p.fst.toNat Ay;have g2:=hp.get p.snd.toNat Ay;have a1:=qA.1 g1;have a2:=qA.1 g2;rw[if_pos ⟨a1.2.2.1,a2.2.2.1⟩];have h2:=O7 hp r _ _ (λx hx=>hg x (by simp[hx])) (h.add q1 (BR ny (plan.getD p.fst.toNat 0) (plan.getD p.snd.toNat 0)));rw[cK,zr];simp only[jm,jK];rw[<- Int.add_assoc];exact h2
def vq(plan:List Int)(c:Ct):Int:=u5 c.most c.da (te plan c.fH 0)
def O8{m:ah}{plan:List Int}:∀ (l:List Ct) (out:List Int) (v:Int),(∀ c∈l,fE m c=true)->Sat m.rules out v ->
  Sat m.rules (qy plan l out) (v+cM (λi=>vq plan (l.getD i default)) l.length)
 |[],out,v,_,h=>by show Sat m.rules out (v+0);rw[Hq];exact h
 |c::r,out,v,hg,h=>by
  rw[qy];obtain⟨q1,q2,q3,q4⟩:=yW (hg c Dg);have h2:=O8 (plan:=plan) r _ _ (λx hx=>hg x (by simp[hx])) (h.add q1 (EZ (most:=c.most) (sum:=te plan c.fH 0) (qz q3)));rw[cK,zr];simp only[jm,jK];rw[<- Int.add_assoc];exact h2
def rV(m:ah)(plan:List Int)(j:Nat):Int:=zq ((m.cls.getD j default).getD (plan.getD j 0).toNat default)
def Vz{m:ah}{plan:List Int}(hv:VM m)(hp:FP m plan):rH (rI m plan) 0 =
  min (cM (rV m plan) m.cls.length+cM (λi=>pF m plan (m.ae.getD i default)) m.ae.length+cM (λi=>vq plan (m.aL.getD i default)) m.aL.length) 1099511627776:=by
 have h0:Sat m.rules (ax m.rules.toNat 0) 0:=by
  refine⟨gG.rep hv.rJ.1,Ha,?_⟩;have:∀ k,gw (ax k 0)=0:=by
   intro k
   induction k with
   |zero=>rfl
   |succ k ih=>rw[List.replicate_succ,gw,ih];rfl
  rw[this]
 have h1:=O6 hv plan 0 _ _ (λj hj=>by rw[gM];exact hp.get j hj) h0;have h2:=O7 hp m.ae _ _ (nr hv.pr) h1;have h3:=O8 (plan:=plan) m.aL _ _ hv.ct h2;have VA:=B' (Fu hv plan).2 (n:=0) (by unfold b9;decide);have he:=h3.eq;change min (gw (rI m plan)) _=_ at he;rw[VA,Dv,he,Dv,hp.len];simp only[gM];rfl
def O9(r:List Nm)(i q:Nat)(a:Int)(hi:i<r.length):(rT r i a).getD q default=if i=q then((r.getD q default).1+a,(r.getD q default).2) else r.getD q default:=by
 unfold rT;by_cases h:i=q
 ·subst h;rw[if_pos rfl];simp only[aw,cj,hi,if_true,dK]
 ·rw[if_neg h];simp only[aw,dq h]
def O'(r:List Nm){i q:Nat}(a:Int)(h:i≠q):(rT r i a).getD q default=r.getD q default:=by
 unfold rT;simp only[aw,dq h]
def Ca{f:Nat->Nat}{a:Int}{t:List Nm}{q:Nat}:∀ k:Nat,(∀ j,j<k->f j≠q)->(pE f a k t).getD q default=t.getD q default
 |0,_=>rfl
 |k+1,h=>by rw[pE,O' _ _ (h k Ay),Ca k λj hj=>h j Ay]
def Fv{f:Nat->Nat}{a:Int}{t:List Nm}{q j0:Nat}(h0:f j0=q)(hq:q<t.length):∀ k:Nat,j0<k->(∀ j,j<k->j≠j0->f j≠q)->(pE f a k t).getD q default=((t.getD q default).1-a,(t.getD q default).2)
 |0,hk,_=>Ay
 |k+1,hk,h=>by
  rw[pE];by_cases e:j0=k
  ·subst e;rw[h0,O9 _ _ _ _ (by rw[Fs];exact hq),if_pos rfl,Ca j0 λj hj=>h j Ay Ay];congr 1
  ·rw[O' _ _ (h k Ay Ay),Fv h0 hq k Ay λj hj=>h j Ay]
def Cb{a b n j k:Int}(hj:0<=j/\j<n)(hk:0<=k/\k<n)(h:a*n+j=b*n+k):a=b/\j=k:=by
 rcases Int.lt_trichotomy a b with hl|hl|hl
 ·have:(a+1)*n<=b*n:=Dq Ay Ay;rw[Int.add_mul,Int.one_mul]at this;omega
 ·subst hl;omega
 ·have:(b+1)*n<=a*n:=Dq Ay Ay;rw[Int.add_mul,Int.one_mul]at this;omega
def kP(plan:List Int)(g:Lg)(i:Nat):Nm:=(g.1.getD i default).getD (plan.getD i 0).toNat default
def wW(m:ah)(plan:List Int)(p:Pr):Nat:=(plan.getD p.fst.toNat 0*(m.cls.getD p.snd.toNat default).length+plan.getD p.snd.toNat 0).toNat
def kQ(m:ah)(plan:List Int)(g:Lg)(i:Nat):Nm:=(g.2.getD i default).getD (wW m plan (m.ae.getD i default)) default
def Pa{α:Type}[Inhabited α](l:List α)(i j:Nat)(x:α)(hi:i<l.length):(l.set i x).getD j default=if i=j then x else l.getD j default:=by
 by_cases h:i=j
 ·subst h;rw[if_pos rfl];simp only[aw,cj,hi,if_true,dK]
 ·rw[if_neg h];simp only[aw,dq h]
structure Cc(m:ah)(x:Mv):Prop where
 p:0<=x.pair/\x.pair<m.ae.length
 s:x.side=0\/x.side=1
 c:0<=mQ m x/\mQ m x<m.cls.length
 o:0<=x.opt/\x.opt<(m.cls.getD (mQ m x).toNat default).length
def VB{m:ah}{x:Mv}(h:tA m x=true):Cc m x:=by
 unfold tA at h;rw[bd,decide_eq_true_eq,qA]at h;exact⟨Ay,Ay,Ay,Ay⟩
def tC{m:ah}{plan:List Int}(hp:FP m plan){j:Nat}(hj:j<m.cls.length):0<=plan.getD j 0/\plan.getD j 0<(m.cls.getD j default).length:=by
 have h:=qA.1 (hp.get j (by rw[hp.len];exact hj));rw[dz]at h;exact h.2.2
abbrev zt(m:ah)(plan:List Int)(x:Mv):Prop:=plan.getD (mQ m x).toNat 0=x.opt
def VC{m:ah}{plan:List Int}(hp:FP m plan){B:Int}{g:Lg}(h:LG m B g){x:Mv}(hx:Cc m x)(i:Nat):
  kP plan (mf m x g) i=if i=(mQ m x).toNat then(if zt m plan x then((kP plan g i).1+x.rU,(kP plan g i).2) else kP plan g i) else kP plan g i:=by
 obtain⟨Fw,rW,oh,j4⟩:=hx;have h1:=h.s;have h2:=h.sl (mQ m x).toNat Ay;have h3:=tC hp (j:=(mQ m x).toNat) Ay;unfold kP mf zt;dsimp only;rw[Pa _ _ _ _ Ay];by_cases e:i=(mQ m x).toNat
 ·subst e;rw[if_pos rfl,if_pos rfl,O9 _ _ _ _ Ay];by_cases e2:plan.getD (mQ m x).toNat 0=x.opt
  ·rw[if_pos e2,if_pos (by rw[e2])]
  ·rw[if_neg e2,if_neg Ay]
 ·rw[if_neg (Ne.symm e),if_neg e]
def VE{m:ah}(hm:VM m){plan:List Int}(hp:FP m plan){B:Int}{g:Lg}(h:LG m B g){x:Mv}(hx:Cc m x)(i:Nat):
  kQ m plan (mf m x g) i=if i=x.pair.toNat then(if zt m plan x then((kQ m plan g i).1-x.rU,(kQ m plan g i).2) else kQ m plan g i) else kQ m plan g i:=by
 obtain⟨Fw,rW,oh,j4⟩:=hx;have h1:=h.t;have h2:=h.tl x.pair.toNat Ay;unfold kQ mf;dsimp only;rw[Pa _ _ _ _ Ay];by_cases e:i=x.pair.toNat;rotate_left
 ·rw[if_neg (Ne.symm e),if_neg e]
 subst e;rw[if_pos rfl,if_pos rfl];have ny:=nr hm.pr _ (aG (l:=m.ae) (i:=x.pair.toNat) (d:=default) Ay);unfold zt;unfold mQ at *;unfold zp wW;generalize m.ae.getD x.pair.toNat default=p at *;obtain⟨q1,q2,q3,q4,q5⟩:=u7 ny;have ha:=tC hp (j:=p.fst.toNat) Ay;have hb:=tC hp (j:=p.snd.toNat) Ay;have hl1:=hm.opt _ (aG (l:=m.cls) (i:=p.fst.toNat) (d:=default) Ay);have iK:=hm.opt _ (aG (l:=m.cls) (i:=p.snd.toNat) (d:=default) Ay);generalize g.2.getD x.pair.toNat default=t at *;generalize VF:plan.getD p.fst.toNat 0=a at *;generalize mI:plan.getD p.snd.toNat 0=b at *;generalize VG:(m.cls.getD p.fst.toNat default).length=na at *;generalize VH:(m.cls.getD p.snd.toNat default).length=nb at *;have tD:=u9 (x:=a) (y:=b) (a:=na) (b:=nb) ha hb Ay Ay;rcases rW with hs|hs
 ·rw[if_pos hs]at oh j4;rw[if_pos hs,if_pos hs,VF];rw[VG]at j4;dsimp only;have wX:=u9 (x:=x.opt) (y:=b) (a:=na) (b:=nb) j4 hb Ay Ay;by_cases e2:a=x.opt
  ·rw[if_pos e2];refine Fv (j0:=b.toNat) ?_ Ay nb Ay λj hj bI he=>?_
   ·rw[e2,oR hb.1]
   ·have:=Cb (a:=x.opt) (b:=a) (n:=nb) (j:=j) (k:=b) Ay Ay Ay;omega
  ·rw[if_neg e2];refine Ca nb λj hj he=>?_;have:=Cb (a:=x.opt) (b:=a) (n:=nb) (j:=j) (k:=b) Ay Ay Ay;omega
 ·rw[if_neg Ay]at oh j4;have oz:¬ x.side=0:=Ay;rw[if_neg oz,if_neg oz,mI];rw[VH]at j4;dsimp only;by_cases e2:b=x.opt
  ·rw[if_pos e2];refine Fv (j0:=a.toNat) ?_ Ay na Ay λj hj bI he=>?_
   ·rw[e2,oR ha.1]
   ·have mo:=u9 (x:=(j:Int)) (y:=x.opt) (a:=na) (b:=nb) Ay j4 Ay Ay;have:=Cb (a:=(j:Int)) (b:=a) (n:=nb) (j:=x.opt) (k:=b) Ay Ay Ay;omega
  ·rw[if_neg e2];refine Ca na λj hj he=>?_;have mo:=u9 (x:=(j:Int)) (y:=x.opt) (a:=na) (b:=nb) Ay j4 Ay Ay;have:=Cb (a:=(j:Int)) (b:=a) (n:=nb) (j:=x.opt) (k:=b) Ay Ay Ay;omega
def vr(m:ah)(plan:List Int)(g:Lg):Int:=cM (λi=>(kP plan g i).1) m.cls.length+cM (λi=>(kQ m plan g i).1) m.ae.length
def VI{m:ah}(hm:VM m){plan:List Int}(hp:FP m plan){B:Int}{g:Lg}(h:LG m B g){x:Mv}(hx:Cc m x):
  vr m plan (mf m x g)=vr m plan g/\(∀ i,(kP plan (mf m x g) i).2=(kP plan g i).2)/\∀ i,(kQ m plan (mf m x g) i).2=(kQ m plan g i).2:=by
 have hS:=VC hp h hx;have hT:=VE hm hp h hx;refine⟨?_,λi=>?_,λi=>?_⟩
 ·unfold vr;by_cases hh:zt m plan x
  ·rw[oL (g:=λi=>if i=(mQ m x).toNat then(kP plan g i).1+x.rU else(kP plan g i).1) m.cls.length λi _=>by
    rw[hS,if_pos hh];split<;>rfl,oL (g:=λi=>if i=x.pair.toNat then(kQ m plan g i).1+-x.rU else(kQ m plan g i).1) m.ae.length λi _=>by
    rw[hT,if_pos hh];split<;>rfl,Cd,Cd,if_pos (by have:=hx.c;omega),if_pos (by have:=hx.p;omega)]
   omega
  ·rw[oL (g:=λi=>(kP plan g i).1) m.cls.length λi _=>by rw[hS,if_neg hh];simp,oL (g:=λi=>(kQ m plan g i).1) m.ae.length λi _=>by rw[hT,if_neg hh];simp]
 ·rw[hS];split<;>(try split)<;>rfl
 ·rw[hT];split<;>(try split)<;>rfl
def Pb{m:ah}(hm:VM m){plan:List Int}(hp:FP m plan):∀ (l:List Mv) (B:Int) (g:Lg),0<=B->LG m B g->(∀ x∈l,tA m x=true) ->
  vr m plan (tx m l g)=vr m plan g/\(∀ i,(kP plan (tx m l g) i).2=(kP plan g i).2)/\∀ i,(kQ m plan (tx m l g) i).2=(kQ m plan g i).2
 |[],B,g,_,_,_=>⟨rfl,λ_=>rfl,λ_=>rfl⟩
 |x::r,B,g,hB,h,hx=>by
  have h1:=VI hm hp h (VB (hx x Dg));have h2:=Pb hm hp r _ (mf m x g) Ay (O0 hm hB h (hx x Dg)) (λy hy=>hx y (by simp[hy]));exact⟨h2.1.trans h1.1,λi=>(h2.2.1 i).trans (h1.2.1 i),λi=>(h2.2.2 i).trans (h1.2.2 i)⟩
end T

