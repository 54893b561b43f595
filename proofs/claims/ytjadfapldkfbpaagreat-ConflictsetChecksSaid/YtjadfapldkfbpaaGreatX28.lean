import Derived.Test.YtjadfapldkfbpaaGreatX15
set_option linter.all false
set_option maxHeartbeats 0
set_option maxRecDepth 20000
open List renaming getD_eq_getElem?_getD→aG,getElem?_set→cm,getElem?_set_ne→bM,getD_cons_zero→jh,getD_cons_succ→gN,range→aZ
open Option renaming getD_some→k9
open Int renaming mul_le_mul_of_nonneg_right→Kp,one_mul→Ku,toNat_natCast→ig,toNat_of_nonneg→vV,le_refl→iO,lt_or_le→PY,zero_add→BX,eq_ofNat_of_zero_le→DY
open Bool renaming and_eq_true→bk
open Nat renaming add_zero→iY,zero_add→gf,mul_comm→uJ
open Go Go.Am
namespace T
def aaY(r:List Nm)(i q:Nat)(a:Int)(hi:i<r.length):(j6 r i a).getD q default=if i=q then((r.getD q default).1+a,(r.getD q default).2) else r.getD q default:=by
 unfold j6;by_cases h:i=q
 ·subst h;rw[if_pos rfl];simp only[aG,cm,hi,if_true,k9]
 ·rw[if_neg h];simp only[aG,bM h]
def aaZ(r:List Nm){i q:Nat}(a:Int)(h:i≠q):(j6 r i a).getD q default=r.getD q default:=by
 unfold j6;simp only[aG,bM h]
def JK{f:Nat->Nat}{a:Int}{t:List Nm}{q:Nat}:∀ k:Nat,(∀ j,j<k->f j≠q)->(iz f a k t).getD q default=t.getD q default
 |0,_=>rfl
 |k+1,h=>by rw[iz,aaZ _ _ (h k G3),JK k λj hj=>h j G3]
def Ou{f:Nat->Nat}{a:Int}{t:List Nm}{q j0:Nat}(h0:f j0=q)(hq:q<t.length):∀ k:Nat,j0<k->(∀ j,j<k->j≠j0->f j≠q)->(iz f a k t).getD q default=((t.getD q default).1-a,(t.getD q default).2)
 |0,hk,_=>G3
 |k+1,hk,h=>by
  rw[iz];by_cases e:j0=k
  ·subst e;rw[h0,aaY _ _ _ _ (by rw[A7];exact hq),if_pos rfl,JK j0 λj hj=>h j G3 G3];congr 1
  ·rw[aaZ _ _ (h k G3 G3),Ou h0 hq k G3 λj hj=>h j G3]
def JL{a b n j k:Int}(hj:0<=j/\j<n)(hk:0<=k/\k<n)(h:a*n+j=b*n+k):a=b/\j=k:=by
 rcases Int.lt_trichotomy a b with hl|hl|hl
 ·have:(a+1)*n<=b*n:=Kp G3 G3;rw[Int.add_mul,Ku]at this;omega
 ·subst hl;omega
 ·have:(b+1)*n<=a*n:=Kp G3 G3;rw[Int.add_mul,Ku]at this;omega
def nW(plan:List Int)(g:Lg)(i:Nat):Nm:=(g.1.getD i default).getD (plan.getD i 0).toNat default
def zI(m:ah)(plan:List Int)(p:Pr):Nat:=(plan.getD p.fst.toNat 0*(m.cls.getD p.snd.toNat default).length+plan.getD p.snd.toNat 0).toNat
def nX(m:ah)(plan:List Int)(g:Lg)(i:Nat):Nm:=(g.2.getD i default).getD (zI m plan (m.ae.getD i default)) default
def aa0{α:Type}[Inhabited α](l:List α)(i j:Nat)(x:α)(hi:i<l.length):(l.set i x).getD j default=if i=j then x else l.getD j default:=by
 by_cases h:i=j
 ·subst h;rw[if_pos rfl];simp only[aG,cm,hi,if_true,k9]
 ·rw[if_neg h];simp only[aG,bM h]
structure JM(m:ah)(x:Mv):Prop where
 p:0<=x.pair/\x.pair<m.ae.length
 s:x.side=0\/x.side=1
 c:0<=fR m x/\fR m x<m.cls.length
 o:0<=x.opt/\x.opt<(m.cls.getD (fR m x).toNat default).length
def akj{m:ah}{x:Mv}(h:j5 m x=true):JM m x:=by
 unfold j5 at h;rw[bk,decide_eq_true_eq,iv]at h;exact⟨G3,G3,G3,G3⟩
def vF{m:ah}{plan:List Int}(hp:FP m plan){j:Nat}(hj:j<m.cls.length):0<=plan.getD j 0/\plan.getD j 0<(m.cls.getD j default).length:=by
 have h:=iv.1 (hp.get j (by rw[hp.len];exact hj));rw[ig]at h;exact h.2.2
abbrev Gp(m:ah)(plan:List Int)(x:Mv):Prop:=plan.getD (fR m x).toNat 0=x.opt
def akk{m:ah}{plan:List Int}(hp:FP m plan){B:Int}{g:Lg}(h:LG m B g){x:Mv}(hx:JM m x)(i:Nat):
  nW plan (kl m x g) i=if i=(fR m x).toNat then(if Gp m plan x then((nW plan g i).1+x.dO,(nW plan g i).2) else nW plan g i) else nW plan g i:=by
 obtain⟨hxp,dj,u7,oI⟩:=hx;have h1:=h.s;have h2:=h.sl (fR m x).toNat G3;have h3:=vF hp (j:=(fR m x).toNat) G3;unfold nW kl Gp;dsimp only;rw[aa0 _ _ _ _ G3];by_cases e:i=(fR m x).toNat
 ·subst e;rw[if_pos rfl,if_pos rfl,aaY _ _ _ _ G3];by_cases e2:plan.getD (fR m x).toNat 0=x.opt
  ·rw[if_pos e2,if_pos (by rw[e2])]
  ·rw[if_neg e2,if_neg G3]
 ·rw[if_neg (Ne.symm e),if_neg e]
def akm{m:ah}(hm:VM m){plan:List Int}(hp:FP m plan){B:Int}{g:Lg}(h:LG m B g){x:Mv}(hx:JM m x)(i:Nat):
  nX m plan (kl m x g) i=if i=x.pair.toNat then(if Gp m plan x then((nX m plan g i).1-x.dO,(nX m plan g i).2) else nX m plan g i) else nX m plan g i:=by
 obtain⟨hxp,dj,u7,oI⟩:=hx;have h1:=h.t;have h2:=h.tl x.pair.toNat G3;unfold nX kl;dsimp only;rw[aa0 _ _ _ _ G3];by_cases e:i=x.pair.toNat;rotate_left
 ·rw[if_neg (Ne.symm e),if_neg e]
 subst e;rw[if_pos rfl,if_pos rfl];have dJ:=jy hm.pr _ (aB (l:=m.ae) (i:=x.pair.toNat) (d:=default) G3);unfold Gp;unfold fR at *;unfold pg zI;generalize m.ae.getD x.pair.toNat default=p at *;obtain⟨q1,q2,q3,q4,q5⟩:=m4 dJ;have ha:=vF hp (j:=p.fst.toNat) G3;have hb:=vF hp (j:=p.snd.toNat) G3;have Bv:=hm.opt _ (aB (l:=m.cls) (i:=p.fst.toNat) (d:=default) G3);have qx:=hm.opt _ (aB (l:=m.cls) (i:=p.snd.toNat) (d:=default) G3);generalize g.2.getD x.pair.toNat default=t at *;generalize Dm:plan.getD p.fst.toNat 0=a at *;generalize fW:plan.getD p.snd.toNat 0=b at *;generalize r9:(m.cls.getD p.fst.toNat default).length=na at *;generalize akn:(m.cls.getD p.snd.toNat default).length=nb at *;have eM:=wz (x:=a) (y:=b) (a:=na) (b:=nb) ha hb G3 G3;rcases dj with hs|hs
 ·rw[if_pos hs]at u7 oI;rw[if_pos hs,if_pos hs,Dm];rw[r9]at oI;dsimp only;have F8:=wz (x:=x.opt) (y:=b) (a:=na) (b:=nb) oI hb G3 G3;by_cases e2:a=x.opt
  ·rw[if_pos e2];refine Ou (j0:=b.toNat) ?_ G3 nb G3 λj hj ew he=>?_
   ·rw[e2,vV hb.1]
   ·have:=JL (a:=x.opt) (b:=a) (n:=nb) (j:=j) (k:=b) G3 G3 G3;omega
  ·rw[if_neg e2];refine JK nb λj hj he=>?_;have:=JL (a:=x.opt) (b:=a) (n:=nb) (j:=j) (k:=b) G3 G3 G3;omega
 ·rw[if_neg G3]at u7 oI;have xZ:¬ x.side=0:=G3;rw[if_neg xZ,if_neg xZ,fW];rw[akn]at oI;dsimp only;by_cases e2:b=x.opt
  ·rw[if_pos e2];refine Ou (j0:=a.toNat) ?_ G3 na G3 λj hj ew he=>?_
   ·rw[e2,vV ha.1]
   ·have EA:=wz (x:=(j:Int)) (y:=x.opt) (a:=na) (b:=nb) G3 oI G3 G3;have:=JL (a:=(j:Int)) (b:=a) (n:=nb) (j:=x.opt) (k:=b) G3 G3 G3;omega
  ·rw[if_neg e2];refine JK na λj hj he=>?_;have EA:=wz (x:=(j:Int)) (y:=x.opt) (a:=na) (b:=nb) G3 oI G3 G3;have:=JL (a:=(j:Int)) (b:=a) (n:=nb) (j:=x.opt) (k:=b) G3 G3 G3;omega
def zJ(m:ah)(plan:List Int)(g:Lg):Int:=cd (λi=>(nW plan g i).1) m.cls.length+cd (λi=>(nX m plan g i).1) m.ae.length
def ako{m:ah}(hm:VM m){plan:List Int}(hp:FP m plan){B:Int}{g:Lg}(h:LG m B g){x:Mv}(hx:JM m x):
  zJ m plan (kl m x g)=zJ m plan g/\(∀ i,(nW plan (kl m x g) i).2=(nW plan g i).2)/\∀ i,(nX m plan (kl m x g) i).2=(nX m plan g i).2:=by
 have hS:=akk hp h hx;have hT:=akm hm hp h hx;refine⟨?_,λi=>?_,λi=>?_⟩
 ·unfold zJ;by_cases hh:Gp m plan x
  ·rw[jA (g:=λi=>if i=(fR m x).toNat then(nW plan g i).1+x.dO else(nW plan g i).1) m.cls.length λi _=>by
    rw[hS,if_pos hh];split<;>rfl,jA (g:=λi=>if i=x.pair.toNat then(nX m plan g i).1+-x.dO else(nX m plan g i).1) m.ae.length λi _=>by
    rw[hT,if_pos hh];split<;>rfl,zt,zt,if_pos (by have:=hx.c;omega),if_pos (by have:=hx.p;omega)]
   omega
  ·rw[jA (g:=λi=>(nW plan g i).1) m.cls.length λi _=>by rw[hS,if_neg hh];simp,jA (g:=λi=>(nX m plan g i).1) m.ae.length λi _=>by rw[hT,if_neg hh];simp]
 ·rw[hS];split<;>(try split)<;>rfl
 ·rw[hT];split<;>(try split)<;>rfl
def aa1{m:ah}(hm:VM m){plan:List Int}(hp:FP m plan):∀ (l:List Mv) (B:Int) (g:Lg),0<=B->LG m B g->(∀ x∈l,j5 m x=true) ->
  zJ m plan (j7 m l g)=zJ m plan g/\(∀ i,(nW plan (j7 m l g) i).2=(nW plan g i).2)/\∀ i,(nX m plan (j7 m l g) i).2=(nX m plan g i).2
 |[],B,g,_,_,_=>⟨rfl,λ_=>rfl,λ_=>rfl⟩
 |x::r,B,g,hB,h,hx=>by
  have h1:=ako hm hp h (akj (hx x G9));have h2:=aa1 hm hp r _ (kl m x g) G3 (YT hm hB h (hx x G9)) (λy hy=>hx y (by simp[hy]));exact⟨h2.1.trans h1.1,λi=>(h2.2.1 i).trans (h1.2.1 i),λi=>(h2.2.2 i).trans (h1.2.2 i)⟩
def aa2:∀ (l:List Nm) (s:List Bool) (b:Int×Bool),(∀ i,s.getD i false=false)->eV l s b=b
 |[],s,b,_=>by cases s<;>rfl
 |p::r,[],b,_=>rfl
 |p::r,is::s,b,h=>by
  have h0:=h 0;rw[jh]at h0;rw[eV,if_neg (by rw[h0];simp)];exact aa2 r s b λi=>by have:=h (i+1);rwa [gN]at this
def Ov:∀ (l:List Nm) (s:List Bool) (b:Int×Bool) (i:Nat),i<l.length->(∀ j,s.getD j false=decide (j=i))->b.2=false ->
  eV l s b=if(l.getD i default).2=false then((l.getD i default).1,true) else b
 |[],s,b,i,h,_,_=>by simp at h
 |p::r,[],b,i,_,h,_=>by have:=h i;simp at this
 |p::r,is::s,b,0,_,h,hb=>by
  have h0:=h 0;rw[jh,decide_eq_true rfl]at h0;rw[jh,eV,aa2 r s _ λi=>by have:=h (i+1);rw[gN]at this;rw[this];simp];by_cases hp:p.2=false
  ·rw[if_pos ⟨h0,hp,.inl hb⟩,if_pos hp]
  ·rw[if_neg (λhc=>hp hc.2.1),if_neg hp]
 |p::r,is::s,b,i+1,hi,h,hb=>by
  have h0:=h 0;rw[jh,decide_eq_false G3]at h0;rw[gN,eV,if_neg (by rw[h0];simp)];exact Ov r s b i (by simpa using hi) (λj=>by have:=h (j+1);rw[gN]at this;rw[this];simp) hb
def JN(f:Nat->Int×Bool)(z:Int×Bool):∀ n,(ca ((aZ n).map f) z).1=z.1+cd (λi=>(f i).1) n
 |0=>by simp[ca,cd]
 |n+1=>by rw[zy,CS,cd];dsimp only;rw[JN f z n];omega
def Bx(f:Nat->Int×Bool)(z:Int×Bool):∀ n,(ca ((aZ n).map f) z).2=true↔(z.2=true\/∃ i,i<n/\(f i).2=false)
 |0=>by simp[ca]
 |n+1=>by
  rw[zy,CS];dsimp only;rw[Bool.or_eq_true,Bx f z n,Bool.not_eq_true'];constructor
  ·rintro((h|⟨i,hi,h⟩)|h)
   ·exact .inl h
   ·exact .inr ⟨i,G3,h⟩
   ·exact .inr ⟨n,G3,h⟩
  ·rintro(h|⟨i,hi,h⟩)
   ·exact .inl (.inl h)
   ·by_cases e:i=n
    ·subst e;exact .inr h
    ·exact .inl (.inr ⟨i,G3,h⟩)
def zK(left:List (List Bool))(g:Lg)(i:Nat):Int×Bool:=eV (g.1.getD i default) (left.getD i default) (0,false)
def zL(m:ah)(left:List (List Bool))(g:Lg)(i:Nat):Int×Bool:=eV (g.2.getD i default) (jK m left i) (0,false)
def xd(m:ah)(left:List (List Bool))(i:Nat):Int×Bool:=(jZ left (m.ax.getD i default),!(decide ((m.ax.getD i default).b8=1099511627776)&&decide (0<jZ left (m.ax.getD i default))))
def JO(m:ah)(left:List (List Bool))(g:Lg):Int:=cd (λi=>(zK left g i).1) m.cls.length+cd (λi=>(zL m left g i).1) m.ae.length+cd (λi=>(xd m left i).1) m.ax.length
def Ow(m:ah)(left:List (List Bool))(g:Lg):Prop:=(∃ i,i<m.cls.length/\(zK left g i).2=false)\/(∃ i,i<m.ae.length/\(zL m left g i).2=false)\/∃ i,i<m.ax.length/\(xd m left i).2=false
def akp{m:ah}{left:List (List Bool)}{g:Lg}(h:Ow m left g):r8 m left g=1099511627776:=by
 unfold r8;rw[if_pos];show(ca ((aZ m.ax.length).map (xd m left)) (ca ((aZ m.ae.length).map (zL m left g)) (ca ((aZ m.cls.length).map (zK left g)) (0,false)))).2=true;rw[Bx,Bx,Bx];rcases h with h|h|h
 ·exact .inl (.inl (.inr h))
 ·exact .inl (.inr h)
 ·exact .inr h
def akq{m:ah}{left:List (List Bool)}{g:Lg}(h:¬ Ow m left g):r8 m left g=min (JO m left g) 1099511627776:=by
 have h1:¬ (ca ((aZ m.ax.length).map (xd m left)) (ca ((aZ m.ae.length).map (zL m left g)) (ca ((aZ m.cls.length).map (zK left g)) (0,false)))).2=true:=by
  rw[Bx,Bx,Bx];rintro(((h2|h2)|h2)|h2)
  ·cases h2
  ·exact h (.inl h2)
  ·exact h (.inr (.inl h2))
  ·exact h (.inr (.inr h2))
 have h2:(ca ((aZ m.ax.length).map (xd m left)) (ca ((aZ m.ae.length).map (zL m left g)) (ca ((aZ m.cls.length).map (zK left g)) (0,false)))).1=JO m left g:=by
  rw[JN,JN,JN];unfold JO;dsimp only;omega
 show(if(ca ((aZ m.ax.length).map (xd m left)) (ca ((aZ m.ae.length).map (zL m left g)) (ca ((aZ m.cls.length).map (zK left g)) (0,false)))).2=true then(1099511627776:Int) else min (ca ((aZ m.ax.length).map (xd m left)) (ca ((aZ m.ae.length).map (zL m left g)) (ca ((aZ m.cls.length).map (zK left g)) (0,false)))).1 1099511627776)=_;rw[if_neg h1,h2]
def JP:∀ (l:List Ld) (c o w:Int),(∀ y∈l,¬ (y.cls=c/\y.opt=o))->gT l c o w=w
 |[],_,_,_,_=>rfl
 |x::r,c,o,w,h=>by rw[gT,if_neg (h x G9),JP r c o w λy hy=>h y (by simp[hy])]
def aa3{m:ah}:∀ {l:List Ld} {q:Option Ld} (c o:Int),eE m q l=true->gT l c o 0=vh l c o
 |[],_,_,_,_=>rfl
 |x::r,q,c,o,h=>by
  have hr:eE m (some x) r=true:=by
   cases q<;>rw[eE]at h<;>simp only[bk]at h<;>exact h.2
  rw[gT,vh];by_cases e:x.cls=c/\x.opt=o
  ·rw[if_pos e,if_pos e];exact JP r c o _ λy hy he=>by have:=zi hr y hy;omega
  ·rw[if_neg e,if_neg e];exact aa3 c o hr
def aa4(l:List Ld):∀ (plan:List Int) (i:Nat),tX l i plan=cd (λj=>vh l (i+j:Nat) (plan.getD j 0)) plan.length
 |[],i=>rfl
 |o::r,i=>by
  rw[tX,aa4 l r (i+1),List.length_cons,zu];simp only[jh,gN,iY];rw[jA (g:=λj=>vh l (i+(j+1):Nat) (r.getD j 0)) r.length λj _=>by rw[show i+1+j=i+(j+1) by omega]]
def Dp{l:List Ld}(h:∀ x∈l,1<=x.wt/\x.wt<=1000)(c:Int):∀ (row:List Bool) (o:Nat) (b:Int),0<=b->0<=eI l c o row b/\eI l c o row b<=b
 |[],_,b,hb=>⟨hb,iO _⟩
 |is::r,o,b,hb=>by
  rw[eI];have hw:=AX h c o 0 G3;split
  ·rename_i hc;have:=Dp h c r (o+1) (gT l c o 0) hw.1;omega
  ·exact Dp h c r (o+1) b hb
def Ox{l:List Ld}(h:∀ x∈l,1<=x.wt/\x.wt<=1000)(c:Int):∀ (row:List Bool) (o:Nat) (b:Int) (i:Nat),row.getD i false=true->eI l c o row b<=gT l c (o+i:Nat) 0
 |[],_,b,i,hi=>by simp at hi
 |is::r,o,b,0,hi=>by
  rw[jh]at hi;have hw:=AX h c o 0 G3;rw[eI];simp only[iY];split
  ·exact(Dp h c r (o+1) _ hw.1).2
  ·rename_i hc;have hb:0<=b/\b<=gT l c o 0:=by
    constructor
    ·rcases PY b 0 with h2|h2
     ·exact absurd ⟨hi,.inl h2⟩ hc
     ·exact h2
    ·rcases PY (gT l c o 0) b with h2|h2
     ·exact absurd ⟨hi,.inr h2⟩ hc
     ·exact h2
   have:=Dp h c r (o+1) b hb.1;omega
 |is::r,o,b,i+1,hi=>by
  rw[gN]at hi;rw[eI,show o+(i+1)=o+1+i by omega];exact Ox h c r (o+1) _ i hi
def Oy(l:List Ld)(c:Int):∀ (row:List Bool) (o:Nat) (b:Int),(∀ i,row.getD i false=false)->eI l c o row b=b
 |[],_,_,_=>rfl
 |is::r,o,b,h=>by
  have h0:=h 0;rw[jh]at h0;rw[eI,if_neg (by rw[h0];simp)];exact Oy l c r (o+1) b λi=>by have:=h (i+1);rwa [gN]at this
def aa5(l:List Ld)(c:Int):∀ (row:List Bool) (o:Nat) (i:Nat),(∀ j,row.getD j false=decide (j=i))->eI l c o row (-1)=gT l c (o+i:Nat) 0
 |[],_,i,h=>by have:=h i;simp at this
 |is::r,o,0,h=>by
  have h0:=h 0;rw[jh,decide_eq_true rfl]at h0;rw[eI,if_pos ⟨h0,.inl Kq⟩,iY];exact Oy l c r (o+1) _ λj=>by have:=h (j+1);rw[gN]at this;rw[this];simp
 |is::r,o,i+1,h=>by
  have h0:=h 0;rw[jh,decide_eq_false G3]at h0;rw[eI,if_neg (by rw[h0];simp),show o+(i+1)=o+1+i by omega];exact aa5 l c r (o+1) i λj=>by have:=h (j+1);rw[gN]at this;rw[this];simp
def JQ{f:Nat->Int}:∀ (n:Nat),(∀ i<n,0<=f i)->0<=cd f n/\∀ i<n,f i<=cd f n
 |0,_=>⟨iO _,λi h=>G3⟩
 |n+1,h=>by
  have h1:=JQ n λi hi=>h i G3;have h2:=h n G3;rw[cd];refine⟨G3,λi hi=>?_⟩;by_cases e:i=n
  ·subst e;omega
  ·have:=h1.2 i G3;omega
def akr{m:ah}{plan:List Int}(hm:VM m)(hp:FP m plan){i:Nat}(hi:i<m.cls.length):bZ (wJ m plan i):=by
 have h:=vF hp hi;have hl:=aB (l:=m.cls) (i:=i) (d:=default) hi;exact IV (hm.oB _ hl _ (aB (l:=m.cls.getD i default) (i:=(plan.getD i 0).toNat) (d:=default) G3))
def sg0{m:ah}{plan:List Int}(hp:FP m plan){i:Nat}(hi:i<m.cls.length):nW plan (S0 m,T0 m) i=fL (wJ m plan i):=by
 have h:=vF hp hi;unfold nW S0;dsimp only;rw[kU _ _ _ hi];unfold ep iy;rw[List.map_map,kU _ _ _ G3];rfl
def aa7{m:ah}{plan:List Int}(hm:VM m)(hp:FP m plan){p:Pr}(dJ:gL m p=true):zI m plan p<p.aD.length:=by
 obtain⟨q1,q2,q3,q4,q5⟩:=m4 dJ;have ha:=vF hp (j:=p.fst.toNat) G3;have hb:=vF hp (j:=p.snd.toNat) G3;have Bv:=hm.opt _ (aB (l:=m.cls) (i:=p.fst.toNat) (d:=default) G3);have qx:=hm.opt _ (aB (l:=m.cls) (i:=p.snd.toNat) (d:=default) G3);have eM:=wz ha hb G3 G3;unfold zI;omega
def tg0{m:ah}{plan:List Int}(hm:VM m)(hp:FP m plan){i:Nat}(hi:i<m.ae.length):nX m plan (S0 m,T0 m) i=fL (uh m plan (m.ae.getD i default)):=by
 have dJ:=jy hm.pr _ (aB (l:=m.ae) (i:=i) (d:=default) hi);have eM:=aa7 hm hp dJ;unfold nX T0;dsimp only;rw[kU _ _ _ hi];unfold ep;rw[kU _ _ _ eM];unfold uh o9 zI;rfl
def aks{m:ah}{plan:List Int}(hp:FP m plan){c:Ct}(hc:iW m c=true):ly plan c.aJ 0=cd (λj=>gT c.aJ (j:Nat) (plan.getD j 0) 0) m.cls.length:=by
 obtain⟨_,_,_,q4⟩:=nG hc;rw[Uf hp.len 0 q4,aa4,BX,hp.len];exact jA _ λj _=>by rw[gf,aa3 _ _ q4]
def Jg(m:ah)(left:List (List Bool))(plan:List Int):Prop:=∀ i,i<m.cls.length->∀ j,(left.getD i default).getD j false=decide (j=(plan.getD i 0).toNat)
def akt{m:ah}{plan:List Int}{left:List (List Bool)}(hm:VM m)(hp:FP m plan)(hf:fD m left)(iV:Jg m left plan){c:Ct}(hc:iW m c=true):jZ left c=ui plan c:=by
 obtain⟨_,_,q3,q4⟩:=nG hc;have hw:∀ x∈c.aJ,1<=x.wt/\x.wt<=1000:=λx hx=>(rS q4 x hx).2;unfold jZ ui;congr 1;rw[Fl,aks hp hc,BX,hf.1];refine jA _ λj hj=>?_;have hg:=vF hp hj;have h1:=aa5 c.aJ (j:Nat) (left.getD j []) 0 (plan.getD j 0).toNat (iV j hj);have h2:=AX hw (j:Nat) (plan.getD j 0) 0 G3;rw[gf,vV hg.1]at h1;unfold nK;rw[gf,h1];omega
def aku{m:ah}{plan:List Int}{c:Ct}(hc:iW m c=true):bZ (ui plan c):=EV (mD (nG hc).2.2.1)
def akv{most s:Int}(h:0<mz most 1099511627776 s):mz most 1099511627776 s=1099511627776:=by
 unfold mz at *;split at h
 ·omega
 ·rename_i h2;rw[if_neg h2];omega
def akw{m:ah}{plan:List Int}{p:Pr}(h:gL m p=true):bZ (uh m plan p):=EW h _ _
structure akx(m:ah)(plan:List Int)(left:List (List Bool))(g:Lg):Prop where
 cO:mC (mZ m plan) 0=min (cd (wJ m plan) m.cls.length+cd (λi=>uh m plan (m.ae.getD i default)) m.ae.length+cd (λi=>ui plan (m.ax.getD i default)) m.ax.length) 1099511627776
 ps:zJ m plan g=cd (wJ m plan) m.cls.length+cd (λi=>uh m plan (m.ae.getD i default)) m.ae.length
 sf:∀ i,i<m.cls.length->(nW plan g i).2=decide (1099511627776<=wJ m plan i)
 tf:∀ i,i<m.ae.length->(nX m plan g i).2=decide (1099511627776<=uh m plan (m.ae.getD i default))
 sl:∀ i,i<m.cls.length->(plan.getD i 0).toNat<(g.1.getD i default).length
 tl:∀ i,i<m.ae.length->zI m plan (m.ae.getD i default)<(g.2.getD i default).length
 a:0<=cd (wJ m plan) m.cls.length/\∀ i<m.cls.length,wJ m plan i<=cd (wJ m plan) m.cls.length
 b:0<=cd (λi=>uh m plan (m.ae.getD i default)) m.ae.length/\∀ i<m.ae.length,uh m plan (m.ae.getD i default)<=cd (λi=>uh m plan (m.ae.getD i default)) m.ae.length
 c:0<=cd (λi=>ui plan (m.ax.getD i default)) m.ax.length/\∀ i<m.ax.length,ui plan (m.ax.getD i default)<=cd (λi=>ui plan (m.ax.getD i default)) m.ax.length
def parts{m:ah}{plan:List Int}(hm:VM m)(hp:FP m plan)(left:List (List Bool))(l:List Mv)(hl:∀ x∈l,j5 m x=true):akx m plan left (j7 m l (S0 m,T0 m)):=by
 have gF:=aa1 hm hp l _ _ Kq (YV hm) hl;have jO:=I2 hm l hl;refine⟨ahl hm hp,?_,λi hi=>?_,λi hi=>?_,λi hi=>?_,λi hi=>?_,JQ _ λi hi=>(akr hm hp hi).1,JQ _ λi hi=>(akw (jy hm.pr _ (aB hi))).1,JQ _ λi hi=>(aku (hm.ct _ (aB hi))).1⟩
 ·rw[gF.1];unfold zJ;rw[jA m.cls.length λi hi=>by rw[sg0 hp hi],jA m.ae.length λi hi=>by rw[tg0 hm hp hi]];rfl
 ·rw[gF.2.1,sg0 hp hi];rfl
 ·rw[gF.2.2,tg0 hm hp hi];rfl
 ·have:=vF hp hi;rw[jO.sl i hi];omega
 ·rw[jO.tl i hi];exact aa7 hm hp (jy hm.pr _ (aB hi))
def aky{m:ah}{plan:List Int}{left:List (List Bool)}(hm:VM m)(hp:FP m plan)(hf:fD m left)(lu:Jg m left plan){i:Nat}(hi:i<m.ae.length)(j:Nat):(jK m left i).getD j false=decide (j=zI m plan (m.ae.getD i default)):=by
 have dJ:=jy hm.pr _ (aB (l:=m.ae) (i:=i) (d:=default) hi);obtain⟨q1,q2,q3,q4,q5⟩:=m4 dJ;have g1:=vF hp (j:=(m.ae.getD i default).fst.toNat) G3;have g2:=vF hp (j:=(m.ae.getD i default).snd.toNat) G3;have o1:=lu (m.ae.getD i default).fst.toNat G3;have o2:=lu (m.ae.getD i default).snd.toNat G3;have f1:=hf.2 (m.ae.getD i default).fst.toNat (by have:=hf.1;omega);have f2:=hf.2 (m.ae.getD i default).snd.toNat (by have:=hf.1;omega);unfold jK zI;generalize m.ae.getD i default=p at *;rw[<- f1]at g1;rw[<- f2]at g2 ⊢;generalize left.getD p.fst.toNat default=a at *;generalize left.getD p.snd.toNat default=b at *;generalize plan.getD p.fst.toNat 0=x at *;generalize plan.getD p.snd.toNat 0=y at *;obtain⟨x,rfl⟩:=DY g1.1;obtain⟨y,rfl⟩:=DY g2.1;simp only[ig]at o1 o2;have hx:x<a.length:=G3;have hy:y<b.length:=G3;have e:((x:Int)*b.length+y).toNat=x*b.length+y:=by
  rw[show((x:Int)*b.length+y)=((x*b.length+y:Nat):Int) by simp,ig]
 rw[e];by_cases hj:j<a.length*b.length
 ·rw[M8 _ _ _ hj,o1,o2,<- Bool.decide_and];have hdm:=Nat.div_add_mod j b.length;have Hz:=Nat.mod_lt j (show 0<b.length by omega);refine decide_eq_decide.2 ⟨λ⟨h1,h2⟩=>?_,λh=>?_⟩
  ·rw[h1,h2,uJ]at hdm;exact hdm.symm
  ·rw[h,uJ x,Nat.mul_add_div G3,Nat.div_eq_of_lt hy,Nat.mul_add_mod,Nat.mod_eq_of_lt hy];exact⟨rfl,rfl⟩
 ·rw[aG,List.getElem?_eq_none (by rw[Fs];omega),Option.getD_none,decide_eq_false];intro h;have h3:(x+1)*b.length<=a.length*b.length:=Nat.mul_le_mul_right _ hx;rw[Nat.add_mul,Nat.one_mul]at h3;omega
def ail{m:ah}{plan:List Int}(hm:VM m)(hp:FP m plan)(left:List (List Bool))(hf:fD m left)(lu:Jg m left plan)(l:List Mv)(hl:∀ x∈l,j5 m x=true):
  r8 m left (j7 m l (S0 m,T0 m))=mC (mZ m plan) 0:=by
 have P:=parts hm hp left l hl;generalize j7 m l (S0 m,T0 m)=g at *;rw[P.cO];have ha:=P.a;have hb:=P.b;have hc:=P.c;have gF:=P.ps;have e1:∀ i,i<m.cls.length->zK left g i=if(nW plan g i).2=false then((nW plan g i).1,true) else(0,false):=λi hi =>
  Ov _ _ _ _ (P.sl i hi) (lu i hi) rfl
 have e2:∀ i,i<m.ae.length->zL m left g i=if(nX m plan g i).2=false then((nX m plan g i).1,true) else(0,false):=λi hi =>
  Ov _ _ _ _ (P.tl i hi) (aky hm hp hf lu hi) rfl
 have e3:∀ i,i<m.ax.length->jZ left (m.ax.getD i default)=ui plan (m.ax.getD i default):=λi hi =>
  akt hm hp hf lu (hm.ct _ (aB hi))
 by_cases hN:Ow m left g
 ·rw[akp hN];rcases hN with⟨i,hi,h⟩|⟨i,hi,h⟩|⟨i,hi,h⟩
  ·rw[e1 i hi,P.sf i hi]at h;have:=ha.2 i hi;by_cases hx:1099511627776<=wJ m plan i
   ·omega
   ·rw[decide_eq_false hx,if_pos rfl]at h;cases h
  ·rw[e2 i hi,P.tf i hi]at h;have:=hb.2 i hi;by_cases hx:1099511627776<=uh m plan (m.ae.getD i default)
   ·omega
   ·rw[decide_eq_false hx,if_pos rfl]at h;cases h
  ·have h1:=hc.2 i hi;unfold xd at h;dsimp only at h;rw[e3 i hi,Bool.not_eq_false',bk,decide_eq_true_eq,decide_eq_true_eq]at h;have h3:ui plan (m.ax.getD i default)=1099511627776:=by
    obtain⟨h4,h5⟩:=h;unfold ui at h5 ⊢;rw[h4]at h5 ⊢;exact akv h5
   omega
 ·rw[akq hN];congr 1;rw[<- gF];unfold JO zJ;congr 1
  ·congr 1
   ·refine jA _ λi hi=>?_;rw[e1 i hi];split
    ·rfl
    ·rename_i h;exact absurd (.inl ⟨i,hi,by rw[e1 i hi,if_neg h]⟩) hN
   ·refine jA _ λi hi=>?_;rw[e2 i hi];split
    ·rfl
    ·rename_i h;exact absurd (.inr (.inl ⟨i,hi,by rw[e2 i hi,if_neg h]⟩)) hN
  ·exact jA _ λi hi=>e3 i hi
end T

