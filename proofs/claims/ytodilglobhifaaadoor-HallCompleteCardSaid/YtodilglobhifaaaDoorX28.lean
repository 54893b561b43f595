import Derived.Test.YtodilglobhifaaaDoorX24
set_option linter.all false
set_option maxHeartbeats 0
set_option maxRecDepth 20000
open List renaming getD_eq_getElem?_getD→an,getElem?_set→bM,getElem?_set_ne→cV
open Option renaming getD_some→dg
open Int renaming mul_le_mul_of_nonneg_right→Ad,toNat_of_nonneg→iS
open Go Go.Am
namespace T
def LK(r:List Nm)(i q:Nat)(a:Int)(hi:i<r.length):(ph r i a).getD q default=if i=q then((r.getD q default).1+a,(r.getD q default).2) else r.getD q default:=by
 unfold ph;by_cases h:i=q
 ·subst h;rw[if_pos rfl];simp only[an,bM,hi,if_true,dg]
 ·rw[if_neg h];simp only[an,cV h]
def LL(r:List Nm){i q:Nat}(a:Int)(h:i≠q):(ph r i a).getD q default=r.getD q default:=by
 unfold ph;simp only[an,cV h]
def zw{f:Nat->Nat}{a:Int}{t:List Nm}{q:Nat}:∀ k:Nat,(∀ j,j<k->f j≠q)->(mZ f a k t).getD q default=t.getD q default
 |0,_=>rfl
 |k+1,h=>by rw[mZ,LL _ _ (h k z8),zw k λj hj=>h j z8]
def Dg{f:Nat->Nat}{a:Int}{t:List Nm}{q j0:Nat}(h0:f j0=q)(hq:q<t.length):∀ k:Nat,j0<k->(∀ j,j<k->j≠j0->f j≠q)->(mZ f a k t).getD q default=((t.getD q default).1-a,(t.getD q default).2)
 |0,hk,_=>z8
 |k+1,hk,h=>by
  rw[mZ];by_cases e:j0=k
  ·subst e;rw[h0,LK _ _ _ _ (by rw[CE];exact hq),if_pos rfl,zw j0 λj hj=>h j z8 z8];congr 1
  ·rw[LL _ _ (h k z8 z8),Dg h0 hq k z8 λj hj=>h j z8]
def zx{a b n j k:Int}(hj:0<=j/\j<n)(hk:0<=k/\k<n)(h:a*n+j=b*n+k):a=b/\j=k:=by
 rcases Int.lt_trichotomy a b with hl|hl|hl
 ·have:(a+1)*n<=b*n:=Ad z8 z8;rw[Int.add_mul,Int.one_mul]at this;omega
 ·subst hl;omega
 ·have:(b+1)*n<=a*n:=Ad z8 z8;rw[Int.add_mul,Int.one_mul]at this;omega
def jh(plan:List Int)(g:Lg)(i:Nat):Nm:=(g.1.getD i default).getD (plan.getD i 0).toNat default
def uh(m:ae)(plan:List Int)(p:Pr):Nat:=(plan.getD p.fst.toNat 0*(m.cls.getD p.snd.toNat default).length+plan.getD p.snd.toNat 0).toNat
def jk(m:ae)(plan:List Int)(g:Lg)(i:Nat):Nm:=(g.2.getD i default).getD (uh m plan (m.aj.getD i default)) default
def LM{α:Type}[Inhabited α](l:List α)(i j:Nat)(x:α)(hi:i<l.length):(l.set i x).getD j default=if i=j then x else l.getD j default:=by
 by_cases h:i=j
 ·subst h;rw[if_pos rfl];simp only[an,bM,hi,if_true,dg]
 ·rw[if_neg h];simp only[an,cV h]
structure zy(m:ae)(x:Mv):Prop where
 p:0<=x.pair/\x.pair<m.aj.length
 s:x.side=0\/x.side=1
 c:0<=kK m x/\kK m x<m.cls.length
 o:0<=x.opt/\x.opt<(m.cls.getD (kK m x).toNat default).length
def Sn{m:ae}{x:Mv}(h:qm m x=true):zy m x:=by
 unfold qm at h;rw[Bool.and_eq_true,decide_eq_true_eq,nQ]at h;exact⟨z8,z8,z8,z8⟩
def qB{m:ae}{plan:List Int}(hp:FP m plan){j:Nat}(hj:j<m.cls.length):0<=plan.getD j 0/\plan.getD j 0<(m.cls.getD j default).length:=by
 have h:=nQ.1 (hp.get j (by rw[hp.len];exact hj));rw[Int.toNat_natCast]at h;exact h.2.2
abbrev wB(m:ae)(plan:List Int)(x:Mv):Prop:=plan.getD (kK m x).toNat 0=x.opt
def So{m:ae}{plan:List Int}(hp:FP m plan){B:Int}{g:Lg}(h:LG m B g){x:Mv}(hx:zy m x)(i:Nat):
  jh plan (kh m x g) i=if i=(kK m x).toNat then(if wB m plan x then((jh plan g i).1+x.pg,(jh plan g i).2) else jh plan g i) else jh plan g i:=by
 obtain⟨Sp,qv,lU,kN⟩:=hx;have h1:=h.s;have h2:=h.sl (kK m x).toNat z8;have h3:=qB hp (j:=(kK m x).toNat) z8;unfold jh kh wB;dsimp only;rw[LM _ _ _ _ z8];by_cases e:i=(kK m x).toNat
 ·subst e;rw[if_pos rfl,if_pos rfl,LK _ _ _ _ z8];by_cases e2:plan.getD (kK m x).toNat 0=x.opt
  ·rw[if_pos e2,if_pos (by rw[e2])]
  ·rw[if_neg e2,if_neg z8]
 ·rw[if_neg (Ne.symm e),if_neg e]
def Sr{m:ae}(hm:VM m){plan:List Int}(hp:FP m plan){B:Int}{g:Lg}(h:LG m B g){x:Mv}(hx:zy m x)(i:Nat):
  jk m plan (kh m x g) i=if i=x.pair.toNat then(if wB m plan x then((jk m plan g i).1-x.pg,(jk m plan g i).2) else jk m plan g i) else jk m plan g i:=by
 obtain⟨Sp,qv,lU,kN⟩:=hx;have h1:=h.t;have h2:=h.tl x.pair.toNat z8;unfold jk kh;dsimp only;rw[LM _ _ _ _ z8];by_cases e:i=x.pair.toNat;rotate_left
 ·rw[if_neg (Ne.symm e),if_neg e]
 subst e;rw[if_pos rfl,if_pos rfl];have m4:=mS hm.pr _ (aO (l:=m.aj) (i:=x.pair.toNat) (d:=default) z8);unfold wB;unfold kK at *;unfold vZ uh;generalize m.aj.getD x.pair.toNat default=p at *;obtain⟨q1,q2,q3,q4,q5⟩:=vA m4;have ha:=qB hp (j:=p.fst.toNat) z8;have hb:=qB hp (j:=p.snd.toNat) z8;have C7:=hm.opt _ (aO (l:=m.cls) (i:=p.fst.toNat) (d:=default) z8);have lS:=hm.opt _ (aO (l:=m.cls) (i:=p.snd.toNat) (d:=default) z8);generalize g.2.getD x.pair.toNat default=t at *;generalize Ss:plan.getD p.fst.toNat 0=a at *;generalize rH:plan.getD p.snd.toNat 0=b at *;generalize Su:(m.cls.getD p.fst.toNat default).length=na at *;generalize Sv:(m.cls.getD p.snd.toNat default).length=nb at *;have qC:=tG (x:=a) (y:=b) (a:=na) (b:=nb) ha hb z8 z8;rcases qv with hs|hs
 ·rw[if_pos hs]at lU kN;rw[if_pos hs,if_pos hs,Ss];rw[Su]at kN;dsimp only;have Uo:=tG (x:=x.opt) (y:=b) (a:=na) (b:=nb) kN hb z8 z8;by_cases e2:a=x.opt
  ·rw[if_pos e2];refine Dg (j0:=b.toNat) ?_ z8 nb z8 λj hj bx he=>?_
   ·rw[e2,iS hb.1]
   ·have:=zx (a:=x.opt) (b:=a) (n:=nb) (j:=j) (k:=b) z8 z8 z8;omega
  ·rw[if_neg e2];refine zw nb λj hj he=>?_;have:=zx (a:=x.opt) (b:=a) (n:=nb) (j:=j) (k:=b) z8 z8 z8;omega
 ·rw[if_neg z8]at lU kN;have qb:¬ x.side=0:=z8;rw[if_neg qb,if_neg qb,rH];rw[Sv]at kN;dsimp only;by_cases e2:b=x.opt
  ·rw[if_pos e2];refine Dg (j0:=a.toNat) ?_ z8 na z8 λj hj bx he=>?_
   ·rw[e2,iS ha.1]
   ·have kq:=tG (x:=(j:Int)) (y:=x.opt) (a:=na) (b:=nb) z8 kN z8 z8;have:=zx (a:=(j:Int)) (b:=a) (n:=nb) (j:=x.opt) (k:=b) z8 z8 z8;omega
  ·rw[if_neg e2];refine zw na λj hj he=>?_;have kq:=tG (x:=(j:Int)) (y:=x.opt) (a:=na) (b:=nb) z8 kN z8 z8;have:=zx (a:=(j:Int)) (b:=a) (n:=nb) (j:=x.opt) (k:=b) z8 z8 z8;omega
def sv(m:ae)(plan:List Int)(g:Lg):Int:=cd (λi=>(jh plan g i).1) m.cls.length+cd (λi=>(jk m plan g i).1) m.aj.length
def Sw{m:ae}(hm:VM m){plan:List Int}(hp:FP m plan){B:Int}{g:Lg}(h:LG m B g){x:Mv}(hx:zy m x):
  sv m plan (kh m x g)=sv m plan g/\(∀ i,(jh plan (kh m x g) i).2=(jh plan g i).2)/\∀ i,(jk m plan (kh m x g) i).2=(jk m plan g i).2:=by
 have hS:=So hp h hx;have hT:=Sr hm hp h hx;refine⟨?_,λi=>?_,λi=>?_⟩
 ·unfold sv;by_cases hh:wB m plan x
  ·rw[ma (g:=λi=>if i=(kK m x).toNat then(jh plan g i).1+x.pg else(jh plan g i).1) m.cls.length λi _=>by
    rw[hS,if_pos hh];split<;>rfl,ma (g:=λi=>if i=x.pair.toNat then(jk m plan g i).1+-x.pg else(jk m plan g i).1) m.aj.length λi _=>by
    rw[hT,if_pos hh];split<;>rfl,yX,yX,if_pos (by have:=hx.c;omega),if_pos (by have:=hx.p;omega)]
   omega
  ·rw[ma (g:=λi=>(jh plan g i).1) m.cls.length λi _=>by rw[hS,if_neg hh];simp,ma (g:=λi=>(jk m plan g i).1) m.aj.length λi _=>by rw[hT,if_neg hh];simp]
 ·rw[hS];split<;>(try split)<;>rfl
 ·rw[hT];split<;>(try split)<;>rfl
def LN{m:ae}(hm:VM m){plan:List Int}(hp:FP m plan):∀ (l:List Mv) (B:Int) (g:Lg),0<=B->LG m B g->(∀ x∈l,qm m x=true) ->
  sv m plan (qn m l g)=sv m plan g/\(∀ i,(jh plan (qn m l g) i).2=(jh plan g i).2)/\∀ i,(jk m plan (qn m l g) i).2=(jk m plan g i).2
 |[],B,g,_,_,_=>⟨rfl,λ_=>rfl,λ_=>rfl⟩
 |x::r,B,g,hB,h,hx=>by
  have h1:=Sw hm hp h (Sn (hx x Eb));have h2:=LN hm hp r _ (kh m x g) z8 (Kg hm hB h (hx x Eb)) (λy hy=>hx y (by simp[hy]));exact⟨h2.1.trans h1.1,λi=>(h2.2.1 i).trans (h1.2.1 i),λi=>(h2.2.2 i).trans (h1.2.2 i)⟩
def zA{f:Nat->Int}:∀ (n:Nat),(∀ i<n,0<=f i)->0<=cd f n/\∀ i<n,f i<=cd f n
 |0,_=>⟨Int.le_refl _,λi h=>z8⟩
 |n+1,h=>by
  have h1:=zA n λi hi=>h i z8;have h2:=h n z8;rw[cd];refine⟨z8,λi hi=>?_⟩;by_cases e:i=n
  ·subst e;omega
  ·have:=h1.2 i z8;omega
def Sx{m:ae}{plan:List Int}(hm:VM m)(hp:FP m plan){i:Nat}(hi:i<m.cls.length):bG (pt m plan i):=by
 have h:=qB hp hi;have hl:=aO (l:=m.cls) (i:=i) (d:=default) hi;exact J' (hm.rO _ hl _ (aO (l:=m.cls.getD i default) (i:=(plan.getD i 0).toNat) (d:=default) z8))
def LP{m:ae}{plan:List Int}(hp:FP m plan){i:Nat}(hi:i<m.cls.length):jh plan (S0 m,T0 m) i=CA (pt m plan i):=by
 have h:=qB hp hi;unfold jh S0;dsimp only;rw[qo _ _ _ hi];unfold sa CC;rw[List.map_map,qo _ _ _ z8];rfl
def LQ{m:ae}{plan:List Int}(hm:VM m)(hp:FP m plan){p:Pr}(m4:eP m p=true):uh m plan p<p.dw.length:=by
 obtain⟨q1,q2,q3,q4,q5⟩:=vA m4;have ha:=qB hp (j:=p.fst.toNat) z8;have hb:=qB hp (j:=p.snd.toNat) z8;have C7:=hm.opt _ (aO (l:=m.cls) (i:=p.fst.toNat) (d:=default) z8);have lS:=hm.opt _ (aO (l:=m.cls) (i:=p.snd.toNat) (d:=default) z8);have qC:=tG ha hb z8 z8;unfold uh;omega
def LR{m:ae}{plan:List Int}(hm:VM m)(hp:FP m plan){i:Nat}(hi:i<m.aj.length):jk m plan (S0 m,T0 m) i=CA (m5 m plan (m.aj.getD i default)):=by
 have m4:=mS hm.pr _ (aO (l:=m.aj) (i:=i) (d:=default) hi);have qC:=LQ hm hp m4;unfold jk T0;dsimp only;rw[qo _ _ _ hi];unfold sa;rw[qo _ _ _ qC];unfold m5 l4 uh;rfl
def Sy{m:ae}{plan:List Int}{c:Ct}(hc:gY m c=true):bG (sn plan c):=B0 (nP (vB hc).2.2.1)
def Sz{m:ae}{plan:List Int}{p:Pr}(h:eP m p=true):bG (m5 m plan p):=yH h _ _
structure SA(m:ae)(plan:List Int)(left:List (List Bool))(g:Lg):Prop where
 P8:oW (oX m plan) 0=min (cd (pt m plan) m.cls.length+cd (λi=>m5 m plan (m.aj.getD i default)) m.aj.length+cd (λi=>sn plan (m.cz.getD i default)) m.cz.length) 1099511627776
 ps:sv m plan g=cd (pt m plan) m.cls.length+cd (λi=>m5 m plan (m.aj.getD i default)) m.aj.length
 sf:∀ i,i<m.cls.length->(jh plan g i).2=decide (1099511627776<=pt m plan i)
 tf:∀ i,i<m.aj.length->(jk m plan g i).2=decide (1099511627776<=m5 m plan (m.aj.getD i default))
 sl:∀ i,i<m.cls.length->(plan.getD i 0).toNat<(g.1.getD i default).length
 tl:∀ i,i<m.aj.length->uh m plan (m.aj.getD i default)<(g.2.getD i default).length
 a:0<=cd (pt m plan) m.cls.length/\∀ i<m.cls.length,pt m plan i<=cd (pt m plan) m.cls.length
 b:0<=cd (λi=>m5 m plan (m.aj.getD i default)) m.aj.length/\∀ i<m.aj.length,m5 m plan (m.aj.getD i default)<=cd (λi=>m5 m plan (m.aj.getD i default)) m.aj.length
 c:0<=cd (λi=>sn plan (m.cz.getD i default)) m.cz.length/\∀ i<m.cz.length,sn plan (m.cz.getD i default)<=cd (λi=>sn plan (m.cz.getD i default)) m.cz.length
def parts{m:ae}{plan:List Int}(hm:VM m)(hp:FP m plan)(left:List (List Bool))(l:List Mv)(hl:∀ x∈l,qm m x=true):SA m plan left (qn m l (S0 m,T0 m)):=by
 have wC:=LN hm hp l _ _ US (Ki hm) hl;have Dh:=Qm hm l hl;refine⟨Re hm hp,?_,λi hi=>?_,λi hi=>?_,λi hi=>?_,λi hi=>?_,zA _ λi hi=>(Sx hm hp hi).1,zA _ λi hi=>(Sz (mS hm.pr _ (aO hi))).1,zA _ λi hi=>(Sy (hm.ct _ (aO hi))).1⟩
 ·rw[wC.1];unfold sv;rw[ma m.cls.length λi hi=>by rw[LP hp hi],ma m.aj.length λi hi=>by rw[LR hm hp hi]];rfl
 ·rw[wC.2.1,LP hp hi];rfl
 ·rw[wC.2.2,LR hm hp hi];rfl
 ·have:=qB hp hi;rw[Dh.sl i hi];omega
 ·rw[Dh.tl i hi];exact LQ hm hp (mS hm.pr _ (aO hi))
def jP:List (Int×Bool)->Int->Option Int
 |[],n=>some n
 |p::r,n=>if p.2=false then none else jP r (n+p.1)
end T

