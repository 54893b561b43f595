import Derived.Test.YtodilglobhifaaaGreatDoorX20
set_option linter.all false
set_option maxHeartbeats 0
set_option maxRecDepth 20000
open List renaming getD_eq_getElem?_getD→ax,getElem?_set→bT,getElem?_set_ne→dz
open Option renaming getD_some→dE
open Int renaming mul_le_mul_of_nonneg_right→BD,one_mul→Js,toNat_of_nonneg→oW
open Go Go.Am
namespace T
def Ti(r:List Nm)(i q:Nat)(a:Int)(hi:i<r.length):(kv r i a).getD q default=if i=q then((r.getD q default).1+a,(r.getD q default).2) else r.getD q default:=by
 unfold kv;by_cases h:i=q
 ·subst h;rw[if_pos rfl];simp only[ax,bT,hi,if_true,dE]
 ·rw[if_neg h];simp only[ax,dz h]
def Tj(r:List Nm){i q:Nat}(a:Int)(h:i≠q):(kv r i a).getD q default=r.getD q default:=by
 unfold kv;simp only[ax,dz h]
def DW{f:Nat->Nat}{a:Int}{t:List Nm}{q:Nat}:∀ k:Nat,(∀ j,j<k->f j≠q)->(jv f a k t).getD q default=t.getD q default
 |0,_=>rfl
 |k+1,h=>by rw[jv,Tj _ _ (h k Bv),DW k λj hj=>h j Bv]
def Is{f:Nat->Nat}{a:Int}{t:List Nm}{q j0:Nat}(h0:f j0=q)(hq:q<t.length):∀ k:Nat,j0<k->(∀ j,j<k->j≠j0->f j≠q)->(jv f a k t).getD q default=((t.getD q default).1-a,(t.getD q default).2)
 |0,hk,_=>Bv
 |k+1,hk,h=>by
  rw[jv];by_cases e:j0=k
  ·subst e;rw[h0,Ti _ _ _ _ (by rw[Ah];exact hq),if_pos rfl,DW j0 λj hj=>h j Bv Bv];congr 1
  ·rw[Tj _ _ (h k Bv Bv),Is h0 hq k Bv λj hj=>h j Bv]
def DX{a b n j k:Int}(hj:0<=j/\j<n)(hk:0<=k/\k<n)(h:a*n+j=b*n+k):a=b/\j=k:=by
 rcases Int.lt_trichotomy a b with hl|hl|hl
 ·have:(a+1)*n<=b*n:=BD Bv Bv;rw[Int.add_mul,Js]at this;omega
 ·subst hl;omega
 ·have:(b+1)*n<=a*n:=BD Bv Bv;rw[Int.add_mul,Js]at this;omega
def lK(plan:List Int)(g:Lg)(i:Nat):Nm:=(g.1.getD i default).getD (plan.getD i 0).toNat default
def yn(m:ah)(plan:List Int)(p:Pr):Nat:=(plan.getD p.fst.toNat 0*(m.cls.getD p.snd.toNat default).length+plan.getD p.snd.toNat 0).toNat
def lL(m:ah)(plan:List Int)(g:Lg)(i:Nat):Nm:=(g.2.getD i default).getD (yn m plan (m.aj.getD i default)) default
def Tk{α:Type}[Inhabited α](l:List α)(i j:Nat)(x:α)(hi:i<l.length):(l.set i x).getD j default=if i=j then x else l.getD j default:=by
 by_cases h:i=j
 ·subst h;rw[if_pos rfl];simp only[ax,bT,hi,if_true,dE]
 ·rw[if_neg h];simp only[ax,dz h]
structure DY(m:ah)(x:Mv):Prop where
 p:0<=x.pair/\x.pair<m.aj.length
 s:x.side=0\/x.side=1
 c:0<=fj m x/\fj m x<m.cls.length
 o:0<=x.opt/\x.opt<(m.cls.getD (fj m x).toNat default).length
def aby{m:ah}{x:Mv}(h:lF m x=true):DY m x:=by
 unfold lF at h;rw[Bool.and_eq_true,decide_eq_true_eq,mj]at h;exact⟨Bv,Bv,Bv,Bv⟩
def uZ{m:ah}{plan:List Int}(hp:FP m plan){j:Nat}(hj:j<m.cls.length):0<=plan.getD j 0/\plan.getD j 0<(m.cls.getD j default).length:=by
 have h:=mj.1 (hp.get j (by rw[hp.len];exact hj));rw[Int.toNat_natCast]at h;exact h.2.2
abbrev AX(m:ah)(plan:List Int)(x:Mv):Prop:=plan.getD (fj m x).toNat 0=x.opt
def abz{m:ah}{plan:List Int}(hp:FP m plan){B:Int}{g:Lg}(h:LG m B g){x:Mv}(hx:DY m x)(i:Nat):
  lK plan (jK m x g) i=if i=(fj m x).toNat then(if AX m plan x then((lK plan g i).1+x.eY,(lK plan g i).2) else lK plan g i) else lK plan g i:=by
 obtain⟨hxp,ef,px,nV⟩:=hx;have h1:=h.s;have h2:=h.sl (fj m x).toNat Bv;have h3:=uZ hp (j:=(fj m x).toNat) Bv;unfold lK jK AX;dsimp only;rw[Tk _ _ _ _ Bv];by_cases e:i=(fj m x).toNat
 ·subst e;rw[if_pos rfl,if_pos rfl,Ti _ _ _ _ Bv];by_cases e2:plan.getD (fj m x).toNat 0=x.opt
  ·rw[if_pos e2,if_pos (by rw[e2])]
  ·rw[if_neg e2,if_neg Bv]
 ·rw[if_neg (Ne.symm e),if_neg e]
def abB{m:ah}(hm:VM m){plan:List Int}(hp:FP m plan){B:Int}{g:Lg}(h:LG m B g){x:Mv}(hx:DY m x)(i:Nat):
  lL m plan (jK m x g) i=if i=x.pair.toNat then(if AX m plan x then((lL m plan g i).1-x.eY,(lL m plan g i).2) else lL m plan g i) else lL m plan g i:=by
 obtain⟨hxp,ef,px,nV⟩:=hx;have h1:=h.t;have h2:=h.tl x.pair.toNat Bv;unfold lL jK;dsimp only;rw[Tk _ _ _ _ Bv];by_cases e:i=x.pair.toNat;rotate_left
 ·rw[if_neg (Ne.symm e),if_neg e]
 subst e;rw[if_pos rfl,if_pos rfl];have jl:=lE hm.pr _ (aF (l:=m.aj) (i:=x.pair.toNat) (d:=default) Bv);unfold AX;unfold fj at *;unfold tu yn;generalize m.aj.getD x.pair.toNat default=p at *;obtain⟨q1,q2,q3,q4,q5⟩:=xR jl;have ha:=uZ hp (j:=p.fst.toNat) Bv;have hb:=uZ hp (j:=p.snd.toNat) Bv;have pN:=hm.opt _ (aF (l:=m.cls) (i:=p.fst.toNat) (d:=default) Bv);have kR:=hm.opt _ (aF (l:=m.cls) (i:=p.snd.toNat) (d:=default) Bv);generalize g.2.getD x.pair.toNat default=t at *;generalize haa:plan.getD p.fst.toNat 0=a at *;generalize qC:plan.getD p.snd.toNat 0=b at *;generalize hna:(m.cls.getD p.fst.toNat default).length=na at *;generalize abE:(m.cls.getD p.snd.toNat default).length=nb at *;have kZ:=v7 (x:=a) (y:=b) (a:=na) (b:=nb) ha hb Bv Bv;rcases ef with hs|hs
 ·rw[if_pos hs]at px nV;rw[if_pos hs,if_pos hs,haa];rw[hna]at nV;dsimp only;have AM:=v7 (x:=x.opt) (y:=b) (a:=na) (b:=nb) nV hb Bv Bv;by_cases e2:a=x.opt
  ·rw[if_pos e2];refine Is (j0:=b.toNat) ?_ Bv nb Bv λj hj cC he=>?_
   ·rw[e2,oW hb.1]
   ·have:=DX (a:=x.opt) (b:=a) (n:=nb) (j:=j) (k:=b) Bv Bv Bv;omega
  ·rw[if_neg e2];refine DW nb λj hj he=>?_;have:=DX (a:=x.opt) (b:=a) (n:=nb) (j:=j) (k:=b) Bv Bv Bv;omega
 ·rw[if_neg Bv]at px nV;have xO:¬ x.side=0:=Bv;rw[if_neg xO,if_neg xO,qC];rw[abE]at nV;dsimp only;by_cases e2:b=x.opt
  ·rw[if_pos e2];refine Is (j0:=a.toNat) ?_ Bv na Bv λj hj cC he=>?_
   ·rw[e2,oW ha.1]
   ·have nv:=v7 (x:=(j:Int)) (y:=x.opt) (a:=na) (b:=nb) Bv nV Bv Bv;have:=DX (a:=(j:Int)) (b:=a) (n:=nb) (j:=x.opt) (k:=b) Bv Bv Bv;omega
  ·rw[if_neg e2];refine DW na λj hj he=>?_;have nv:=v7 (x:=(j:Int)) (y:=x.opt) (a:=na) (b:=nb) Bv nV Bv Bv;have:=DX (a:=(j:Int)) (b:=a) (n:=nb) (j:=x.opt) (k:=b) Bv Bv Bv;omega
def wF(m:ah)(plan:List Int)(g:Lg):Int:=cM (λi=>(lK plan g i).1) m.cls.length+cM (λi=>(lL m plan g i).1) m.aj.length
def abF{m:ah}(hm:VM m){plan:List Int}(hp:FP m plan){B:Int}{g:Lg}(h:LG m B g){x:Mv}(hx:DY m x):
  wF m plan (jK m x g)=wF m plan g/\(∀ i,(lK plan (jK m x g) i).2=(lK plan g i).2)/\∀ i,(lL m plan (jK m x g) i).2=(lL m plan g i).2:=by
 have hS:=abz hp h hx;have hT:=abB hm hp h hx;refine⟨?_,λi=>?_,λi=>?_⟩
 ·unfold wF;by_cases hh:AX m plan x
  ·rw[mo (g:=λi=>if i=(fj m x).toNat then(lK plan g i).1+x.eY else(lK plan g i).1) m.cls.length λi _=>by
    rw[hS,if_pos hh];split<;>rfl,mo (g:=λi=>if i=x.pair.toNat then(lL m plan g i).1+-x.eY else(lL m plan g i).1) m.aj.length λi _=>by
    rw[hT,if_pos hh];split<;>rfl,xU,xU,if_pos (by have:=hx.c;omega),if_pos (by have:=hx.p;omega)]
   omega
  ·rw[mo (g:=λi=>(lK plan g i).1) m.cls.length λi _=>by rw[hS,if_neg hh];simp,mo (g:=λi=>(lL m plan g i).1) m.aj.length λi _=>by rw[hT,if_neg hh];simp]
 ·rw[hS];split<;>(try split)<;>rfl
 ·rw[hT];split<;>(try split)<;>rfl
def Tl{m:ah}(hm:VM m){plan:List Int}(hp:FP m plan):∀ (l:List Mv) (B:Int) (g:Lg),0<=B->LG m B g->(∀ x∈l,lF m x=true) ->
  wF m plan (kT m l g)=wF m plan g/\(∀ i,(lK plan (kT m l g) i).2=(lK plan g i).2)/\∀ i,(lL m plan (kT m l g) i).2=(lL m plan g i).2
 |[],B,g,_,_,_=>⟨rfl,λ_=>rfl,λ_=>rfl⟩
 |x::r,B,g,hB,h,hx=>by
  have h1:=abF hm hp h (aby (hx x Jy));have h2:=Tl hm hp r _ (jK m x g) Bv (Rn hm hB h (hx x Jy)) (λy hy=>hx y (by simp[hy]));exact⟨h2.1.trans h1.1,λi=>(h2.2.1 i).trans (h1.2.1 i),λi=>(h2.2.2 i).trans (h1.2.2 i)⟩
def DZ{f:Nat->Int}:∀ (n:Nat),(∀ i<n,0<=f i)->0<=cM f n/\∀ i<n,f i<=cM f n
 |0,_=>⟨Int.le_refl _,λi h=>Bv⟩
 |n+1,h=>by
  have h1:=DZ n λi hi=>h i Bv;have h2:=h n Bv;rw[cM];refine⟨Bv,λi hi=>?_⟩;by_cases e:i=n
  ·subst e;omega
  ·have:=h1.2 i Bv;omega
def abG{m:ah}{plan:List Int}(hm:VM m)(hp:FP m plan){i:Nat}(hi:i<m.cls.length):bL (tQ m plan i):=by
 have h:=uZ hp hi;have hl:=aF (l:=m.cls) (i:=i) (d:=default) hi;exact Ri (hm.tj _ hl _ (aF (l:=m.cls.getD i default) (i:=(plan.getD i 0).toNat) (d:=default) Bv))
def Tm{m:ah}{plan:List Int}(hp:FP m plan){i:Nat}(hi:i<m.cls.length):lK plan (S0 m,T0 m) i=fT (tQ m plan i):=by
 have h:=uZ hp hi;unfold lK S0;dsimp only;rw[nP _ _ _ hi];unfold jG rS;rw[List.map_map,nP _ _ _ Bv];rfl
def Tn{m:ah}{plan:List Int}(hm:VM m)(hp:FP m plan){p:Pr}(jl:fG m p=true):yn m plan p<p.bj.length:=by
 obtain⟨q1,q2,q3,q4,q5⟩:=xR jl;have ha:=uZ hp (j:=p.fst.toNat) Bv;have hb:=uZ hp (j:=p.snd.toNat) Bv;have pN:=hm.opt _ (aF (l:=m.cls) (i:=p.fst.toNat) (d:=default) Bv);have kR:=hm.opt _ (aF (l:=m.cls) (i:=p.snd.toNat) (d:=default) Bv);have kZ:=v7 ha hb Bv Bv;unfold yn;omega
def To{m:ah}{plan:List Int}(hm:VM m)(hp:FP m plan){i:Nat}(hi:i<m.aj.length):lL m plan (S0 m,T0 m) i=fT (qN m plan (m.aj.getD i default)):=by
 have jl:=lE hm.pr _ (aF (l:=m.aj) (i:=i) (d:=default) hi);have kZ:=Tn hm hp jl;unfold lL T0;dsimp only;rw[nP _ _ _ hi];unfold jG;rw[nP _ _ _ kZ];unfold qN pB yn;rfl
def abH{m:ah}{plan:List Int}{c:Ct}(hc:fP m c=true):bL (wG plan c):=G2 (pC (uK hc).2.2.1)
def abI{m:ah}{plan:List Int}{p:Pr}(h:fG m p=true):bL (qN m plan p):=C9 h _ _
structure abJ(m:ah)(plan:List Int)(left:List (List Bool))(g:Lg):Prop where
 tot:tg (th m plan) 0=min (cM (tQ m plan) m.cls.length+cM (λi=>qN m plan (m.aj.getD i default)) m.aj.length+cM (λi=>wG plan (m.aI.getD i default)) m.aI.length) 1099511627776
 ps:wF m plan g=cM (tQ m plan) m.cls.length+cM (λi=>qN m plan (m.aj.getD i default)) m.aj.length
 sf:∀ i,i<m.cls.length->(lK plan g i).2=decide (1099511627776<=tQ m plan i)
 tf:∀ i,i<m.aj.length->(lL m plan g i).2=decide (1099511627776<=qN m plan (m.aj.getD i default))
 sl:∀ i,i<m.cls.length->(plan.getD i 0).toNat<(g.1.getD i default).length
 tl:∀ i,i<m.aj.length->yn m plan (m.aj.getD i default)<(g.2.getD i default).length
 a:0<=cM (tQ m plan) m.cls.length/\∀ i<m.cls.length,tQ m plan i<=cM (tQ m plan) m.cls.length
 b:0<=cM (λi=>qN m plan (m.aj.getD i default)) m.aj.length/\∀ i<m.aj.length,qN m plan (m.aj.getD i default)<=cM (λi=>qN m plan (m.aj.getD i default)) m.aj.length
 c:0<=cM (λi=>wG plan (m.aI.getD i default)) m.aI.length/\∀ i<m.aI.length,wG plan (m.aI.getD i default)<=cM (λi=>wG plan (m.aI.getD i default)) m.aI.length
def parts{m:ah}{plan:List Int}(hm:VM m)(hp:FP m plan)(left:List (List Bool))(l:List Mv)(hl:∀ x∈l,lF m x=true):abJ m plan left (kT m l (S0 m,T0 m)):=by
 have gT:=Tl hm hp l _ _ aac (Rq hm) hl;have tH:=Rr hm l hl;refine⟨abK hm hp,?_,λi hi=>?_,λi hi=>?_,λi hi=>?_,λi hi=>?_,DZ _ λi hi=>(abG hm hp hi).1,DZ _ λi hi=>(abI (lE hm.pr _ (aF hi))).1,DZ _ λi hi=>(abH (hm.ct _ (aF hi))).1⟩
 ·rw[gT.1];unfold wF;rw[mo m.cls.length λi hi=>by rw[Tm hp hi],mo m.aj.length λi hi=>by rw[To hm hp hi]];rfl
 ·rw[gT.2.1,Tm hp hi];rfl
 ·rw[gT.2.2,To hm hp hi];rfl
 ·have:=uZ hp hi;rw[tH.sl i hi];omega
 ·rw[tH.tl i hi];exact Tn hm hp (lE hm.pr _ (aF hi))
def mO:List (Int×Bool)->Int->Option Int
 |[],n=>some n
 |p::r,n=>if p.2=false then none else mO r (n+p.1)
end T

