import Derived.Test.YtfoopmojjjpapaaGreatX21
set_option linter.all false
set_option maxHeartbeats 0
set_option maxRecDepth 20000
open List renaming getD_eq_getElem?_getD→aB,getElem?_set→bY,getElem?_set_ne→gV,getD_cons_zero→im,getD_cons_succ→fM,range→bn,length_cons→dt,map_cons→fV,length_map→fW,range'→lH,drop_eq_nil_of_le→jr,range'_succ→uU
open Option renaming getD_some→pQ
open Int renaming mul_le_mul_of_nonneg_right→EZ,one_mul→ID,toNat_natCast→ep,toNat_of_nonneg→u7,le_refl→nt,lt_or_le→IC,eq_ofNat_of_zero_le→N8,zero_add→yX
open Bool renaming and_eq_true→aZ
open Nat renaming add_zero→iq,mul_comm→rX,div_eq_of_lt→NR,mul_add_mod→NP,mod_eq_of_lt→E1,zero_add→gm,add_mul→fN,one_mul→wz,zero_mul→E0
open Go Go.Am
namespace T
def aau(r:List Nm)(i q:Nat)(a:Int)(hi:i<r.length):(jn r i a).getD q default=if i=q then((r.getD q default).1+a,(r.getD q default).2) else r.getD q default:=by
 unfold jn;by_cases h:i=q
 ·subst h;rw[if_pos rfl];simp only[aB,bY,hi,if_true,pQ]
 ·rw[if_neg h];simp only[aB,gV h]
def aav(r:List Nm){i q:Nat}(a:Int)(h:i≠q):(jn r i a).getD q default=r.getD q default:=by
 unfold jn;simp only[aB,gV h]
def HV{f:Nat->Nat}{a:Int}{t:List Nm}{q:Nat}:∀ k:Nat,(∀ j,j<k->f j≠q)->(gu f a k t).getD q default=t.getD q default
 |0,_=>rfl
 |k+1,h=>by rw[gu,aav _ _ (h k Ix),HV k λj hj=>h j Ix]
def MQ{f:Nat->Nat}{a:Int}{t:List Nm}{q j0:Nat}(h0:f j0=q)(hq:q<t.length):∀ k:Nat,j0<k->(∀ j,j<k->j≠j0->f j≠q)->(gu f a k t).getD q default=((t.getD q default).1-a,(t.getD q default).2)
 |0,hk,_=>Ix
 |k+1,hk,h=>by
  rw[gu];by_cases e:j0=k
  ·subst e;rw[h0,aau _ _ _ _ (by rw[zW];exact hq),if_pos rfl,HV j0 λj hj=>h j Ix Ix];congr 1
  ·rw[aav _ _ (h k Ix Ix),MQ h0 hq k Ix λj hj=>h j Ix]
def HW{a b n j k:Int}(hj:0<=j/\j<n)(hk:0<=k/\k<n)(h:a*n+j=b*n+k):a=b/\j=k:=by
 rcases Int.lt_trichotomy a b with hl|hl|hl
 ·have:(a+1)*n<=b*n:=EZ Ix Ix;rw[Int.add_mul,ID]at this;omega
 ·subst hl;omega
 ·have:(b+1)*n<=a*n:=EZ Ix Ix;rw[Int.add_mul,ID]at this;omega
def lE(plan:List Int)(g:Lg)(i:Nat):Nm:=(g.1.getD i default).getD (plan.getD i 0).toNat default
def v8(m:ah)(plan:List Int)(p:Pr):Nat:=(plan.getD p.fst.toNat 0*(m.cls.getD p.snd.toNat default).length+plan.getD p.snd.toNat 0).toNat
def lF(m:ah)(plan:List Int)(g:Lg)(i:Nat):Nm:=(g.2.getD i default).getD (v8 m plan (m.ae.getD i default)) default
def aaw{α:Type}[Inhabited α](l:List α)(i j:Nat)(x:α)(hi:i<l.length):(l.set i x).getD j default=if i=j then x else l.getD j default:=by
 by_cases h:i=j
 ·subst h;rw[if_pos rfl];simp only[aB,bY,hi,if_true,pQ]
 ·rw[if_neg h];simp only[aB,gV h]
structure HX(m:ah)(x:Mv):Prop where
 p:0<=x.pair/\x.pair<m.ae.length
 s:x.side=0\/x.side=1
 c:0<=eK m x/\eK m x<m.cls.length
 o:0<=x.opt/\x.opt<(m.cls.getD (eK m x).toNat default).length
def akg{m:ah}{x:Mv}(h:iC m x=true):HX m x:=by
 unfold iC at h;rw[aZ,decide_eq_true_eq,kR]at h;exact⟨Ix,Ix,Ix,Ix⟩
def qK{m:ah}{plan:List Int}(hp:FP m plan){j:Nat}(hj:j<m.cls.length):0<=plan.getD j 0/\plan.getD j 0<(m.cls.getD j default).length:=by
 have h:=kR.1 (hp.get j (by rw[hp.len];exact hj));rw[ep]at h;exact h.2.2
abbrev Eu(m:ah)(plan:List Int)(x:Mv):Prop:=plan.getD (eK m x).toNat 0=x.opt
def akh{m:ah}{plan:List Int}(hp:FP m plan){B:Int}{g:Lg}(h:LG m B g){x:Mv}(hx:HX m x)(i:Nat):
  lE plan (jE m x g) i=if i=(eK m x).toNat then(if Eu m plan x then((lE plan g i).1+x.amt,(lE plan g i).2) else lE plan g i) else lE plan g i:=by
 obtain⟨hxp,dq,ui,wa⟩:=hx;have h1:=h.s;have h2:=h.sl (eK m x).toNat Ix;have h3:=qK hp (j:=(eK m x).toNat) Ix;unfold lE jE Eu;dsimp only;rw[aaw _ _ _ _ Ix];by_cases e:i=(eK m x).toNat
 ·subst e;rw[if_pos rfl,if_pos rfl,aau _ _ _ _ Ix];by_cases e2:plan.getD (eK m x).toNat 0=x.opt
  ·rw[if_pos e2,if_pos (by rw[e2])]
  ·rw[if_neg e2,if_neg Ix]
 ·rw[if_neg (Ne.symm e),if_neg e]
def akj{m:ah}(hm:VM m){plan:List Int}(hp:FP m plan){B:Int}{g:Lg}(h:LG m B g){x:Mv}(hx:HX m x)(i:Nat):
  lF m plan (jE m x g) i=if i=x.pair.toNat then(if Eu m plan x then((lF m plan g i).1-x.amt,(lF m plan g i).2) else lF m plan g i) else lF m plan g i:=by
 obtain⟨hxp,dq,ui,wa⟩:=hx;have h1:=h.t;have h2:=h.tl x.pair.toNat Ix;unfold lF jE;dsimp only;rw[aaw _ _ _ _ Ix];by_cases e:i=x.pair.toNat;rotate_left
 ·rw[if_neg (Ne.symm e),if_neg e]
 subst e;rw[if_pos rfl,if_pos rfl];have dO:=jP hm.pr _ (aG (l:=m.ae) (i:=x.pair.toNat) (d:=default) Ix);unfold Eu;unfold eK at *;unfold nI v8;generalize m.ae.getD x.pair.toNat default=p at *;obtain⟨q1,q2,q3,q4,q5⟩:=qA dO;have ha:=qK hp (j:=p.fst.toNat) Ix;have hb:=qK hp (j:=p.snd.toNat) Ix;have hl1:=hm.opt _ (aG (l:=m.cls) (i:=p.fst.toNat) (d:=default) Ix);have q9:=hm.opt _ (aG (l:=m.cls) (i:=p.snd.toNat) (d:=default) Ix);generalize g.2.getD x.pair.toNat default=t at *;generalize Mt:plan.getD p.fst.toNat 0=a at *;generalize lW:plan.getD p.snd.toNat 0=b at *;generalize Eb:(m.cls.getD p.fst.toNat default).length=na at *;generalize akk:(m.cls.getD p.snd.toNat default).length=nb at *;have nN:=zN (x:=a) (y:=b) (a:=na) (b:=nb) ha hb Ix Ix;rcases dq with hs|hs
 ·rw[if_pos hs]at ui wa;rw[if_pos hs,if_pos hs,Mt];rw[Eb]at wa;dsimp only;have G9:=zN (x:=x.opt) (y:=b) (a:=na) (b:=nb) wa hb Ix Ix;by_cases e2:a=x.opt
  ·rw[if_pos e2];refine MQ (j0:=b.toNat) ?_ Ix nb Ix λj hj cA he=>?_
   ·rw[e2,u7 hb.1]
   ·have:=HW (a:=x.opt) (b:=a) (n:=nb) (j:=j) (k:=b) Ix Ix Ix;omega
  ·rw[if_neg e2];refine HV nb λj hj he=>?_;have:=HW (a:=x.opt) (b:=a) (n:=nb) (j:=j) (k:=b) Ix Ix Ix;omega
 ·rw[if_neg Ix]at ui wa;have w7:¬ x.side=0:=Ix;rw[if_neg w7,if_neg w7,lW];rw[akk]at wa;dsimp only;by_cases e2:b=x.opt
  ·rw[if_pos e2];refine MQ (j0:=a.toNat) ?_ Ix na Ix λj hj cA he=>?_
   ·rw[e2,u7 ha.1]
   ·have zy:=zN (x:=(j:Int)) (y:=x.opt) (a:=na) (b:=nb) Ix wa Ix Ix;have:=HW (a:=(j:Int)) (b:=a) (n:=nb) (j:=x.opt) (k:=b) Ix Ix Ix;omega
  ·rw[if_neg e2];refine HV na λj hj he=>?_;have zy:=zN (x:=(j:Int)) (y:=x.opt) (a:=na) (b:=nb) Ix wa Ix Ix;have:=HW (a:=(j:Int)) (b:=a) (n:=nb) (j:=x.opt) (k:=b) Ix Ix Ix;omega
def xA(m:ah)(plan:List Int)(g:Lg):Int:=bD (λi=>(lE plan g i).1) m.cls.length+bD (λi=>(lF m plan g i).1) m.ae.length
def akl{m:ah}(hm:VM m){plan:List Int}(hp:FP m plan){B:Int}{g:Lg}(h:LG m B g){x:Mv}(hx:HX m x):
  xA m plan (jE m x g)=xA m plan g/\(∀ i,(lE plan (jE m x g) i).2=(lE plan g i).2)/\∀ i,(lF m plan (jE m x g) i).2=(lF m plan g i).2:=by
 have hS:=akh hp h hx;have hT:=akj hm hp h hx;refine⟨?_,λi=>?_,λi=>?_⟩
 ·unfold xA;by_cases hh:Eu m plan x
  ·rw[iN (g:=λi=>if i=(eK m x).toNat then(lE plan g i).1+x.amt else(lE plan g i).1) m.cls.length λi _=>by
    rw[hS,if_pos hh];split<;>rfl,iN (g:=λi=>if i=x.pair.toNat then(lF m plan g i).1+-x.amt else(lF m plan g i).1) m.ae.length λi _=>by
    rw[hT,if_pos hh];split<;>rfl,yq,yq,if_pos (by have:=hx.c;omega),if_pos (by have:=hx.p;omega)]
   omega
  ·rw[iN (g:=λi=>(lE plan g i).1) m.cls.length λi _=>by rw[hS,if_neg hh];simp,iN (g:=λi=>(lF m plan g i).1) m.ae.length λi _=>by rw[hT,if_neg hh];simp]
 ·rw[hS];split<;>(try split)<;>rfl
 ·rw[hT];split<;>(try split)<;>rfl
def aax{m:ah}(hm:VM m){plan:List Int}(hp:FP m plan):∀ (l:List Mv) (B:Int) (g:Lg),0<=B->LG m B g->(∀ x∈l,iC m x=true) ->
  xA m plan (iF m l g)=xA m plan g/\(∀ i,(lE plan (iF m l g) i).2=(lE plan g i).2)/\∀ i,(lF m plan (iF m l g) i).2=(lF m plan g i).2
 |[],B,g,_,_,_=>⟨rfl,λ_=>rfl,λ_=>rfl⟩
 |x::r,B,g,hB,h,hx=>by
  have h1:=akl hm hp h (akg (hx x Iy));have h2:=aax hm hp r _ (jE m x g) Ix (WE hm hB h (hx x Iy)) (λy hy=>hx y (by simp[hy]));exact⟨h2.1.trans h1.1,λi=>(h2.2.1 i).trans (h1.2.1 i),λi=>(h2.2.2 i).trans (h1.2.2 i)⟩
def HY:∀ (l:List Nm) (s:List Bool) (b:Int×Bool),b.2=true->(dp l s b).2=true/\(dp l s b).1<=b.1
 |[],s,b,h=>by cases s<;>exact⟨h,nt _⟩
 |p::r,[],b,h=>⟨h,nt _⟩
 |p::r,is::s,b,h=>by
  rw[dp];split
  ·rename_i hc;have h2:=HY r s (p.1,true) rfl;have h3:p.1<b.1:=by
    rcases hc.2.2 with h4|h4
    ·rw[h]at h4;cases h4
    ·exact h4
   exact⟨h2.1,by have:=h2.2;dsimp only at this;omega⟩
  ·exact HY r s b h
def MR:∀ (l:List Nm) (s:List Bool) (b:Int×Bool) (i:Nat),i<l.length->s.getD i false=true->(l.getD i default).2=false->(dp l s b).2=true/\(dp l s b).1<=(l.getD i default).1
 |[],s,b,i,h,_,_=>by simp at h
 |p::r,[],b,i,_,h,_=>by simp at h
 |p::r,is::s,b,0,_,h1,h2=>by
  rw[im]at h1 h2 ⊢;rw[dp];split
  ·exact HY r s (p.1,true) rfl
  ·rename_i hc;have hb:b.2=true/\b.1<=p.1:=by
    cases oF:b.2 with
    |false=>exact absurd ⟨h1,h2,.inl oF⟩ hc
    |true=>exact⟨rfl,by rcases IC p.1 b.1 with h|h;exact absurd ⟨h1,h2,.inr h⟩ hc;exact h⟩
   have:=HY r s b hb.1;exact⟨this.1,Ix⟩
 |p::r,is::s,b,i+1,h,h1,h2=>by
  rw[fM]at h1 h2 ⊢;rw[dp];exact MR r s _ i (by simpa using h) h1 h2
def aay:∀ (l:List Nm) (s:List Bool) (b:Int×Bool),(∀ i,s.getD i false=false)->dp l s b=b
 |[],s,b,_=>by cases s<;>rfl
 |p::r,[],b,_=>rfl
 |p::r,is::s,b,h=>by
  have h0:=h 0;rw[im]at h0;rw[dp,if_neg (by rw[h0];simp)];exact aay r s b λi=>by have:=h (i+1);rwa [fM]at this
def MS:∀ (l:List Nm) (s:List Bool) (b:Int×Bool) (i:Nat),i<l.length->(∀ j,s.getD j false=decide (j=i))->b.2=false ->
  dp l s b=if(l.getD i default).2=false then((l.getD i default).1,true) else b
 |[],s,b,i,h,_,_=>by simp at h
 |p::r,[],b,i,_,h,_=>by have:=h i;simp at this
 |p::r,is::s,b,0,_,h,hb=>by
  have h0:=h 0;rw[im,decide_eq_true rfl]at h0;rw[im,dp,aay r s _ λi=>by have:=h (i+1);rw[fM]at this;rw[this];simp];by_cases hp:p.2=false
  ·rw[if_pos ⟨h0,hp,.inl hb⟩,if_pos hp]
  ·rw[if_neg (λhc=>hp hc.2.1),if_neg hp]
 |p::r,is::s,b,i+1,hi,h,hb=>by
  have h0:=h 0;rw[im,decide_eq_false Ix]at h0;rw[fM,dp,if_neg (by rw[h0];simp)];exact MS r s b i (by simpa using hi) (λj=>by have:=h (j+1);rw[fM]at this;rw[this];simp) hb
def HZ(f:Nat->Int×Bool)(z:Int×Bool):∀ n,(bJ ((bn n).map f) z).1=z.1+bD (λi=>(f i).1) n
 |0=>by simp[bJ,bD]
 |n+1=>by rw[yw,BJ,bD];dsimp only;rw[HZ f z n];omega
def Az(f:Nat->Int×Bool)(z:Int×Bool):∀ n,(bJ ((bn n).map f) z).2=true↔(z.2=true\/∃ i,i<n/\(f i).2=false)
 |0=>by simp[bJ]
 |n+1=>by
  rw[yw,BJ];dsimp only;rw[Bool.or_eq_true,Az f z n,Bool.not_eq_true'];constructor
  ·rintro((h|⟨i,hi,h⟩)|h)
   ·exact .inl h
   ·exact .inr ⟨i,Ix,h⟩
   ·exact .inr ⟨n,Ix,h⟩
  ·rintro(h|⟨i,hi,h⟩)
   ·exact .inl (.inl h)
   ·by_cases e:i=n
    ·subst e;exact .inr h
    ·exact .inl (.inr ⟨i,Ix,h⟩)
def wc(left:List (List Bool))(g:Lg)(i:Nat):Int×Bool:=dp (g.1.getD i default) (left.getD i default) (0,false)
def we(m:ah)(left:List (List Bool))(g:Lg)(i:Nat):Int×Bool:=dp (g.2.getD i default) (ik m left i) (0,false)
def rS(m:ah)(left:List (List Bool))(i:Nat):Int×Bool:=(iM left (m.aC.getD i default),!(decide ((m.aC.getD i default).bX=1099511627776)&&decide (0<iM left (m.aC.getD i default))))
def Ev(m:ah)(left:List (List Bool))(g:Lg):Int:=bD (λi=>(wc left g i).1) m.cls.length+bD (λi=>(we m left g i).1) m.ae.length+bD (λi=>(rS m left i).1) m.aC.length
def MT(m:ah)(left:List (List Bool))(g:Lg):Prop:=(∃ i,i<m.cls.length/\(wc left g i).2=false)\/(∃ i,i<m.ae.length/\(we m left g i).2=false)\/∃ i,i<m.aC.length/\(rS m left i).2=false
def akm{m:ah}{left:List (List Bool)}{g:Lg}(h:MT m left g):lq m left g=1099511627776:=by
 unfold lq;rw[if_pos];show(bJ ((bn m.aC.length).map (rS m left)) (bJ ((bn m.ae.length).map (we m left g)) (bJ ((bn m.cls.length).map (wc left g)) (0,false)))).2=true;rw[Az,Az,Az];rcases h with h|h|h
 ·exact .inl (.inl (.inr h))
 ·exact .inl (.inr h)
 ·exact .inr h
def aaz{m:ah}{left:List (List Bool)}{g:Lg}(h:¬ MT m left g):lq m left g=min (Ev m left g) 1099511627776:=by
 have h1:¬ (bJ ((bn m.aC.length).map (rS m left)) (bJ ((bn m.ae.length).map (we m left g)) (bJ ((bn m.cls.length).map (wc left g)) (0,false)))).2=true:=by
  rw[Az,Az,Az];rintro(((h2|h2)|h2)|h2)
  ·cases h2
  ·exact h (.inl h2)
  ·exact h (.inr (.inl h2))
  ·exact h (.inr (.inr h2))
 have h2:(bJ ((bn m.aC.length).map (rS m left)) (bJ ((bn m.ae.length).map (we m left g)) (bJ ((bn m.cls.length).map (wc left g)) (0,false)))).1=Ev m left g:=by
  rw[HZ,HZ,HZ];unfold Ev;dsimp only;omega
 show(if(bJ ((bn m.aC.length).map (rS m left)) (bJ ((bn m.ae.length).map (we m left g)) (bJ ((bn m.cls.length).map (wc left g)) (0,false)))).2=true then(1099511627776:Int) else min (bJ ((bn m.aC.length).map (rS m left)) (bJ ((bn m.ae.length).map (we m left g)) (bJ ((bn m.cls.length).map (wc left g)) (0,false)))).1 1099511627776)=_;rw[if_neg h1,h2]
def akn(m:ah)(left:List (List Bool))(g:Lg):lq m left g<=1099511627776:=by
 unfold lq;split<;>omega
def H0:∀ (l:List Ld) (c o w:Int),(∀ y∈l,¬ (y.cls=c/\y.opt=o))->fH l c o w=w
 |[],_,_,_,_=>rfl
 |x::r,c,o,w,h=>by rw[fH,if_neg (h x Iy),H0 r c o w λy hy=>h y (by simp[hy])]
def aaA{m:ah}:∀ {l:List Ld} {q:Option Ld} (c o:Int),er m q l=true->fH l c o 0=uG l c o
 |[],_,_,_,_=>rfl
 |x::r,q,c,o,h=>by
  have hr:er m (some x) r=true:=by
   cases q<;>rw[er]at h<;>simp only[aZ]at h<;>exact h.2
  rw[fH,uG];by_cases e:x.cls=c/\x.opt=o
  ·rw[if_pos e,if_pos e];exact H0 r c o _ λy hy he=>by have:=yz hr y hy;omega
  ·rw[if_neg e,if_neg e];exact aaA c o hr
def aaB(l:List Ld):∀ (plan:List Int) (i:Nat),s8 l i plan=bD (λj=>uG l (i+j:Nat) (plan.getD j 0)) plan.length
 |[],i=>rfl
 |o::r,i=>by
  rw[s8,aaB l r (i+1),dt,yr];simp only[im,fM,iq];rw[iN (g:=λj=>uG l (i+(j+1):Nat) (r.getD j 0)) r.length λj _=>by rw[show i+1+j=i+(j+1) by omega]]
def Ce{l:List Ld}(h:∀ x∈l,1<=x.wt/\x.wt<=1000)(c:Int):∀ (row:List Bool) (o:Nat) (b:Int),0<=b->0<=dG l c o row b/\dG l c o row b<=b
 |[],_,b,hb=>⟨hb,nt _⟩
 |is::r,o,b,hb=>by
  rw[dG];have hw:=yg h c o 0 Ix;split
  ·rename_i hc;have:=Ce h c r (o+1) (fH l c o 0) hw.1;omega
  ·exact Ce h c r (o+1) b hb
def H2{l:List Ld}(h:∀ x∈l,1<=x.wt/\x.wt<=1000)(c:Int):∀ (row:List Bool) (o:Nat) (b:Int) (i:Nat),row.getD i false=true->dG l c o row b<=fH l c (o+i:Nat) 0
 |[],_,b,i,hi=>by simp at hi
 |is::r,o,b,0,hi=>by
  rw[im]at hi;have hw:=yg h c o 0 Ix;rw[dG];simp only[iq];split
  ·exact(Ce h c r (o+1) _ hw.1).2
  ·rename_i hc;have hb:0<=b/\b<=fH l c o 0:=by
    constructor
    ·rcases IC b 0 with h2|h2
     ·exact absurd ⟨hi,.inl h2⟩ hc
     ·exact h2
    ·rcases IC (fH l c o 0) b with h2|h2
     ·exact absurd ⟨hi,.inr h2⟩ hc
     ·exact h2
   have:=Ce h c r (o+1) b hb.1;omega
 |is::r,o,b,i+1,hi=>by
  rw[fM]at hi;rw[dG,show o+(i+1)=o+1+i by omega];exact H2 h c r (o+1) _ i hi
def MU(l:List Ld)(c:Int):∀ (row:List Bool) (o:Nat) (b:Int),(∀ i,row.getD i false=false)->dG l c o row b=b
 |[],_,_,_=>rfl
 |is::r,o,b,h=>by
  have h0:=h 0;rw[im]at h0;rw[dG,if_neg (by rw[h0];simp)];exact MU l c r (o+1) b λi=>by have:=h (i+1);rwa [fM]at this
def aaC(l:List Ld)(c:Int):∀ (row:List Bool) (o:Nat) (i:Nat),(∀ j,row.getD j false=decide (j=i))->dG l c o row (-1)=fH l c (o+i:Nat) 0
 |[],_,i,h=>by have:=h i;simp at this
 |is::r,o,0,h=>by
  have h0:=h 0;rw[im,decide_eq_true rfl]at h0;rw[dG,if_pos ⟨h0,.inl NI⟩,iq];exact MU l c r (o+1) _ λj=>by have:=h (j+1);rw[fM]at this;rw[this];simp
 |is::r,o,i+1,h=>by
  have h0:=h 0;rw[im,decide_eq_false Ix]at h0;rw[dG,if_neg (by rw[h0];simp),show o+(i+1)=o+1+i by omega];exact aaC l c r (o+1) i λj=>by have:=h (j+1);rw[fM]at this;rw[this];simp
def H3{f:Nat->Int}:∀ (n:Nat),(∀ i<n,0<=f i)->0<=bD f n/\∀ i<n,f i<=bD f n
 |0,_=>⟨nt _,λi h=>Ix⟩
 |n+1,h=>by
  have h1:=H3 n λi hi=>h i Ix;have h2:=h n Ix;rw[bD];refine⟨Ix,λi hi=>?_⟩;by_cases e:i=n
  ·subst e;omega
  ·have:=h1.2 i Ix;omega
def Ew{f g:Nat->Int}:∀ (n:Nat),(∀ i<n,f i<=g i)->bD f n<=bD g n
 |0,_=>nt _
 |n+1,h=>by
  have:=Ew n λi hi=>h i Ix;have:=h n Ix;rw[bD,bD];omega
def ako{m:ah}{plan:List Int}(hm:VM m)(hp:FP m plan){i:Nat}(hi:i<m.cls.length):bM (uF m plan i):=by
 have h:=qK hp hi;have hl:=aG (l:=m.cls) (i:=i) (d:=default) hi;exact Dv (hm.rz _ hl _ (aG (l:=m.cls.getD i default) (i:=(plan.getD i 0).toNat) (d:=default) Ix))
def sg0{m:ah}{plan:List Int}(hp:FP m plan){i:Nat}(hi:i<m.cls.length):lE plan (S0 m,T0 m) i=ez (uF m plan i):=by
 have h:=qK hp hi;unfold lE S0;dsimp only;rw[iX _ _ _ hi];unfold dy bV;rw[List.map_map,iX _ _ _ Ix];rfl
def aaE{m:ah}{plan:List Int}(hm:VM m)(hp:FP m plan){p:Pr}(dO:gB m p=true):v8 m plan p<p.ax.length:=by
 obtain⟨q1,q2,q3,q4,q5⟩:=qA dO;have ha:=qK hp (j:=p.fst.toNat) Ix;have hb:=qK hp (j:=p.snd.toNat) Ix;have hl1:=hm.opt _ (aG (l:=m.cls) (i:=p.fst.toNat) (d:=default) Ix);have q9:=hm.opt _ (aG (l:=m.cls) (i:=p.snd.toNat) (d:=default) Ix);have nN:=zN ha hb Ix Ix;unfold v8;omega
def tg0{m:ah}{plan:List Int}(hm:VM m)(hp:FP m plan){i:Nat}(hi:i<m.ae.length):lF m plan (S0 m,T0 m) i=ez (rF m plan (m.ae.getD i default)):=by
 have dO:=jP hm.pr _ (aG (l:=m.ae) (i:=i) (d:=default) hi);have nN:=aaE hm hp dO;unfold lF T0;dsimp only;rw[iX _ _ _ hi];unfold dy;rw[iX _ _ _ nN];unfold rF zM v8;rfl
def akp{m:ah}{left:List (List Bool)}(hm:VM m)(hf:df m left){i:Nat}(hi:i<m.ae.length){x y:Int}(hx:0<=x/\x<(m.cls.getD (m.ae.getD i default).fst.toNat default).length)(hy:0<=y/\y<(m.cls.getD (m.ae.getD i default).snd.toNat default).length):
  (ik m left i).getD (x*(m.cls.getD (m.ae.getD i default).snd.toNat default).length+y).toNat false=((left.getD (m.ae.getD i default).fst.toNat default).getD x.toNat false&&(left.getD (m.ae.getD i default).snd.toNat default).getD y.toNat false):=by
 have dO:=jP hm.pr _ (aG (l:=m.ae) (i:=i) (d:=default) hi);unfold ik;generalize m.ae.getD i default=p at *;obtain⟨q1,q2,q3,q4,q5⟩:=qA dO;have hl1:=hm.opt _ (aG (l:=m.cls) (i:=p.fst.toNat) (d:=default) Ix);have q9:=hm.opt _ (aG (l:=m.cls) (i:=p.snd.toNat) (d:=default) Ix);have nN:=zN hx hy Ix Ix;have f1:=hf.2 p.fst.toNat (by have:=hf.1;omega);have f2:=hf.2 p.snd.toNat (by have:=hf.1;omega);rw[<- f1]at hx nN;rw[<- f2]at hy nN ⊢;generalize left.getD p.fst.toNat default=a at *;generalize left.getD p.snd.toNat default=b at *;obtain⟨x,rfl⟩:=N8 hx.1;obtain⟨y,rfl⟩:=N8 hy.1;have e:((x:Int)*b.length+y).toNat=x*b.length+y:=by
  rw[show((x:Int)*b.length+y)=((x*b.length+y:Nat):Int) by simp,ep]
 have e2:x*b.length+y<a.length*b.length:=by
  have:=nN.2.2;rw[show((x:Int)*b.length+y)=((x*b.length+y:Nat):Int) by simp,show(a.length:Int)*b.length=((a.length*b.length:Nat):Int) by simp]at this;omega
 have FR:y<b.length:=Ix;rw[e,GQ _ _ _ e2,ep,ep,rX x,Nat.mul_add_div Ix,NR FR,NP,E1 FR,iq]
def aaG{m:ah}{plan:List Int}(hp:FP m plan){c:Ct}(hc:iV m c=true):yn plan c.aY 0=bD (λj=>fH c.aY (j:Nat) (plan.getD j 0) 0) m.cls.length:=by
 obtain⟨_,_,_,q4⟩:=sY hc;rw[Xa hp.len 0 q4,aaB,yX,hp.len];exact iN _ λj _=>by rw[gm,aaA _ _ q4]
def Ex(m:ah)(left:List (List Bool))(plan:List Int):Prop:=∀ i,i<m.cls.length->(left.getD i default).getD (plan.getD i 0).toNat false=true
def DI(m:ah)(left:List (List Bool))(plan:List Int):Prop:=∀ i,i<m.cls.length->∀ j,(left.getD i default).getD j false=decide (j=(plan.getD i 0).toNat)
def least_le{m:ah}{plan:List Int}{left:List (List Bool)}(hm:VM m)(hp:FP m plan)(hf:df m left)(eP:Ex m left plan){c:Ct}(hc:iV m c=true):iM left c<=nJ plan c:=by
 obtain⟨_,_,q3,q4⟩:=sY hc;have hw:∀ x∈c.aY,1<=x.wt/\x.wt<=1000:=λx hx=>(vH q4 x hx).2;refine af1 (uz q3).1 ?_;rw[BD,aaG hp hc,yX,hf.1];refine Ew _ λj hj=>?_;have hg:=qK hp hj;have h1:=H2 hw (j:Nat) (left.getD j []) 0 (-1) (plan.getD j 0).toNat (eP j hj);have h2:=yg hw (j:Nat) (plan.getD j 0) 0 Ix;rw[gm,u7 hg.1]at h1;unfold lX;rw[gm];omega
def akq{m:ah}{plan:List Int}{left:List (List Bool)}(hm:VM m)(hp:FP m plan)(hf:df m left)(eP:DI m left plan){c:Ct}(hc:iV m c=true):iM left c=nJ plan c:=by
 obtain⟨_,_,q3,q4⟩:=sY hc;have hw:∀ x∈c.aY,1<=x.wt/\x.wt<=1000:=λx hx=>(vH q4 x hx).2;unfold iM nJ;congr 1;rw[BD,aaG hp hc,yX,hf.1];refine iN _ λj hj=>?_;have hg:=qK hp hj;have h1:=aaC c.aY (j:Nat) (left.getD j []) 0 (plan.getD j 0).toNat (eP j hj);have h2:=yg hw (j:Nat) (plan.getD j 0) 0 Ix;rw[gm,u7 hg.1]at h1;unfold lX;rw[gm,h1];omega
def akr{m:ah}{plan:List Int}{c:Ct}(hc:iV m c=true):bM (nJ plan c):=Ku (uz (sY hc).2.2.1)
def aaH{most s:Int}(h:0<kQ most 1099511627776 s):kQ most 1099511627776 s=1099511627776:=by
 unfold kQ at *;split at h
 ·omega
 ·rename_i h2;rw[if_neg h2];omega
def aks{m:ah}{plan:List Int}{p:Pr}(h:gB m p=true):bM (rF m plan p):=Kv h _ _
structure akt(m:ah)(plan:List Int)(left:List (List Bool))(g:Lg):Prop where
 j9:vG (yo m plan) 0=min (bD (uF m plan) m.cls.length+bD (λi=>rF m plan (m.ae.getD i default)) m.ae.length+bD (λi=>nJ plan (m.aC.getD i default)) m.aC.length) 1099511627776
 ps:xA m plan g=bD (uF m plan) m.cls.length+bD (λi=>rF m plan (m.ae.getD i default)) m.ae.length
 sf:∀ i,i<m.cls.length->(lE plan g i).2=decide (1099511627776<=uF m plan i)
 tf:∀ i,i<m.ae.length->(lF m plan g i).2=decide (1099511627776<=rF m plan (m.ae.getD i default))
 sl:∀ i,i<m.cls.length->(plan.getD i 0).toNat<(g.1.getD i default).length
 tl:∀ i,i<m.ae.length->v8 m plan (m.ae.getD i default)<(g.2.getD i default).length
 a:0<=bD (uF m plan) m.cls.length/\∀ i<m.cls.length,uF m plan i<=bD (uF m plan) m.cls.length
 b:0<=bD (λi=>rF m plan (m.ae.getD i default)) m.ae.length/\∀ i<m.ae.length,rF m plan (m.ae.getD i default)<=bD (λi=>rF m plan (m.ae.getD i default)) m.ae.length
 c:0<=bD (λi=>nJ plan (m.aC.getD i default)) m.aC.length/\∀ i<m.aC.length,nJ plan (m.aC.getD i default)<=bD (λi=>nJ plan (m.aC.getD i default)) m.aC.length
def parts{m:ah}{plan:List Int}(hm:VM m)(hp:FP m plan)(left:List (List Bool))(l:List Mv)(hl:∀ x∈l,iC m x=true):akt m plan left (iF m l (S0 m,T0 m)):=by
 have fK:=aax hm hp l _ _ NI (WH hm) hl;have kC:=GO hm l hl;refine⟨afU hm hp,?_,λi hi=>?_,λi hi=>?_,λi hi=>?_,λi hi=>?_,H3 _ λi hi=>(ako hm hp hi).1,H3 _ λi hi=>(aks (jP hm.pr _ (aG hi))).1,H3 _ λi hi=>(akr (hm.ct _ (aG hi))).1⟩
 ·rw[fK.1];unfold xA;rw[iN m.cls.length λi hi=>by rw[sg0 hp hi],iN m.ae.length λi hi=>by rw[tg0 hm hp hi]];rfl
 ·rw[fK.2.1,sg0 hp hi];rfl
 ·rw[fK.2.2,tg0 hm hp hi];rfl
 ·have:=qK hp hi;rw[kC.sl i hi];omega
 ·rw[kC.tl i hi];exact aaE hm hp (jP hm.pr _ (aG hi))
def aku{m:ah}{plan:List Int}{left:List (List Bool)}(hm:VM m)(hp:FP m plan)(hf:df m left)(eP:Ex m left plan){i:Nat}(hi:i<m.ae.length):(ik m left i).getD (v8 m plan (m.ae.getD i default)) false=true:=by
 have dO:=jP hm.pr _ (aG (l:=m.ae) (i:=i) (d:=default) hi);obtain⟨q1,q2,q3,q4,q5⟩:=qA dO;unfold v8;rw[akp hm hf hi (qK hp Ix) (qK hp Ix),eP _ Ix,eP _ Ix];rfl
def akv{m:ah}{plan:List Int}{left:List (List Bool)}(hm:VM m)(hp:FP m plan)(hf:df m left)(ot:DI m left plan){i:Nat}(hi:i<m.ae.length)(j:Nat):(ik m left i).getD j false=decide (j=v8 m plan (m.ae.getD i default)):=by
 have dO:=jP hm.pr _ (aG (l:=m.ae) (i:=i) (d:=default) hi);obtain⟨q1,q2,q3,q4,q5⟩:=qA dO;have g1:=qK hp (j:=(m.ae.getD i default).fst.toNat) Ix;have g2:=qK hp (j:=(m.ae.getD i default).snd.toNat) Ix;have o1:=ot (m.ae.getD i default).fst.toNat Ix;have o2:=ot (m.ae.getD i default).snd.toNat Ix;have f1:=hf.2 (m.ae.getD i default).fst.toNat (by have:=hf.1;omega);have f2:=hf.2 (m.ae.getD i default).snd.toNat (by have:=hf.1;omega);unfold ik v8;generalize m.ae.getD i default=p at *;rw[<- f1]at g1;rw[<- f2]at g2 ⊢;generalize left.getD p.fst.toNat default=a at *;generalize left.getD p.snd.toNat default=b at *;generalize plan.getD p.fst.toNat 0=x at *;generalize plan.getD p.snd.toNat 0=y at *;obtain⟨x,rfl⟩:=N8 g1.1;obtain⟨y,rfl⟩:=N8 g2.1;simp only[ep]at o1 o2;have hx:x<a.length:=Ix;have hy:y<b.length:=Ix;have e:((x:Int)*b.length+y).toNat=x*b.length+y:=by
  rw[show((x:Int)*b.length+y)=((x*b.length+y:Nat):Int) by simp,ep]
 rw[e];by_cases hj:j<a.length*b.length
 ·rw[GQ _ _ _ hj,o1,o2,<- Bool.decide_and];have hdm:=Nat.div_add_mod j b.length;have Fj:=Nat.mod_lt j (show 0<b.length by omega);refine decide_eq_decide.2 ⟨λ⟨h1,h2⟩=>?_,λh=>?_⟩
  ·rw[h1,h2,rX]at hdm;exact hdm.symm
  ·rw[h,rX x,Nat.mul_add_div Ix,NR hy,NP,E1 hy];exact⟨rfl,rfl⟩
 ·rw[aB,List.getElem?_eq_none (by rw[DA];omega),Option.getD_none,decide_eq_false];intro h;have h3:(x+1)*b.length<=a.length*b.length:=Nat.mul_le_mul_right _ hx;rw[fN,wz]at h3;omega
def agc{m:ah}{plan:List Int}(hm:VM m)(hp:FP m plan)(left:List (List Bool))(hf:df m left)(eP:Ex m left plan)(l:List Mv)(hl:∀ x∈l,iC m x=true):
  lq m left (iF m l (S0 m,T0 m))<=vG (yo m plan) 0:=by
 have P:=parts hm hp left l hl;generalize iF m l (S0 m,T0 m)=g at *;rw[P.j9];have ha:=P.a;have hb:=P.b;have hc:=P.c;have fK:=P.ps;have amP:=akn m left g;by_cases hF:1099511627776<=bD (uF m plan) m.cls.length+bD (λi=>rF m plan (m.ae.getD i default)) m.ae.length+bD (λi=>nJ plan (m.aC.getD i default)) m.aC.length
 ·omega
 have e1:∀ i,i<m.cls.length->(wc left g i).2=true/\(wc left g i).1<=(lE plan g i).1:=λi hi=>by
  have:=ha.2 i hi;exact MR _ _ _ _ (P.sl i hi) (eP i hi) (by show(lE plan g i).2=false;rw[P.sf i hi,decide_eq_false Ix])
 have e2:∀ i,i<m.ae.length->(we m left g i).2=true/\(we m left g i).1<=(lF m plan g i).1:=λi hi=>by
  have:=hb.2 i hi;exact MR _ _ _ _ (P.tl i hi) (aku hm hp hf eP hi) (by show(lF m plan g i).2=false;rw[P.tf i hi,decide_eq_false Ix])
 have e3:∀ i,i<m.aC.length->(rS m left i).2=true/\(rS m left i).1<=nJ plan (m.aC.getD i default):=λi hi=>by
  have h1:=hc.2 i hi;have yJ:=hm.ct _ (aG (l:=m.aC) (i:=i) (d:=default) hi);have h2:=least_le hm hp hf eP yJ;refine⟨?_,h2⟩;unfold rS;dsimp only;cases hz:(decide ((m.aC.getD i default).bX=1099511627776)&&decide (0<iM left (m.aC.getD i default))) with
  |false=>rfl
  |true =>
   exfalso;rw[aZ,decide_eq_true_eq,decide_eq_true_eq]at hz;have h3:nJ plan (m.aC.getD i default)=1099511627776:=by
    unfold nJ at h2 ⊢;rw[hz.1]at h2 ⊢;exact aaH Ix
   omega
 rw[aaz]
 ·have s1:=Ew m.cls.length λi hi=>(e1 i hi).2;have s2:=Ew m.ae.length λi hi=>(e2 i hi).2;have s3:=Ew m.aC.length λi hi=>(e3 i hi).2;unfold Ev;unfold xA at fK;omega
 ·rintro(⟨i,hi,h⟩|⟨i,hi,h⟩|⟨i,hi,h⟩)
  ·rw[(e1 i hi).1]at h;cases h
  ·rw[(e2 i hi).1]at h;cases h
  ·rw[(e3 i hi).1]at h;cases h
def XO{m:ah}{plan:List Int}(hm:VM m)(hp:FP m plan)(left:List (List Bool))(hf:df m left)(ot:DI m left plan)(l:List Mv)(hl:∀ x∈l,iC m x=true):
  lq m left (iF m l (S0 m,T0 m))=vG (yo m plan) 0:=by
 have P:=parts hm hp left l hl;generalize iF m l (S0 m,T0 m)=g at *;rw[P.j9];have ha:=P.a;have hb:=P.b;have hc:=P.c;have fK:=P.ps;have e1:∀ i,i<m.cls.length->wc left g i=if(lE plan g i).2=false then((lE plan g i).1,true) else(0,false):=λi hi =>
  MS _ _ _ _ (P.sl i hi) (ot i hi) rfl
 have e2:∀ i,i<m.ae.length->we m left g i=if(lF m plan g i).2=false then((lF m plan g i).1,true) else(0,false):=λi hi =>
  MS _ _ _ _ (P.tl i hi) (akv hm hp hf ot hi) rfl
 have e3:∀ i,i<m.aC.length->iM left (m.aC.getD i default)=nJ plan (m.aC.getD i default):=λi hi =>
  akq hm hp hf ot (hm.ct _ (aG hi))
 by_cases hN:MT m left g
 ·rw[akm hN];rcases hN with⟨i,hi,h⟩|⟨i,hi,h⟩|⟨i,hi,h⟩
  ·rw[e1 i hi,P.sf i hi]at h;have:=ha.2 i hi;by_cases hx:1099511627776<=uF m plan i
   ·omega
   ·rw[decide_eq_false hx,if_pos rfl]at h;cases h
  ·rw[e2 i hi,P.tf i hi]at h;have:=hb.2 i hi;by_cases hx:1099511627776<=rF m plan (m.ae.getD i default)
   ·omega
   ·rw[decide_eq_false hx,if_pos rfl]at h;cases h
  ·have h1:=hc.2 i hi;unfold rS at h;dsimp only at h;rw[e3 i hi,Bool.not_eq_false',aZ,decide_eq_true_eq,decide_eq_true_eq]at h;have h3:nJ plan (m.aC.getD i default)=1099511627776:=by
    obtain⟨h4,h5⟩:=h;unfold nJ at h5 ⊢;rw[h4]at h5 ⊢;exact aaH h5
   omega
 ·rw[aaz hN];congr 1;rw[<- fK];unfold Ev xA;congr 1
  ·congr 1
   ·refine iN _ λi hi=>?_;rw[e1 i hi];split
    ·rfl
    ·rename_i h;exact absurd (.inl ⟨i,hi,by rw[e1 i hi,if_neg h]⟩) hN
   ·refine iN _ λi hi=>?_;rw[e2 i hi];split
    ·rfl
    ·rename_i h;exact absurd (.inr (.inl ⟨i,hi,by rw[e2 i hi,if_neg h]⟩)) hN
  ·exact iN _ λi hi=>e3 i hi
def oR:List Int->List Bool->Int->Int
 |x::r,b::s,n=>oR r s (if b=true then min n x else n)
 |_,_,n=>n
def H4(ax:List Int)(w i:Nat)(a:Bool):Nat->List Bool->Int->Int
 |_,[],n=>n
 |k,b::r,n=>H4 ax w i a (k+1) r (if a=true/\b=true then min n (ax.getD (i*w+k) 0) else n)
def H5(ax:List Int)(w:Nat)(rb:List Bool):Nat->List Bool->Int->Int
 |_,[],n=>n
 |i,a::r,n=>H5 ax w rb (i+1) r (H4 ax w i a 0 rb n)
def H6(m:ah)(left:List (List Bool))(p:Pr):Int:=H5 p.ax (m.cls.getD p.snd.toNat default).length (left.getD p.snd.toNat default) 0 (left.getD p.fst.toNat default) 1099511627776
def wg:List Bool->Int->Int
 |[],n=>n
 |b::r,n=>wg r (if b=true then n+1 else n)
def oS(c:Int)(row:List Bool):List Ld->Int×Int->Int×Int
 |[],z=>z
 |x::r,z=>oS c row r (if x.cls=c/\row.getD x.opt.toNat false=true then(z.1-1,if z.2<0\/x.wt<z.2 then x.wt else z.2) else z)
def yR(l:List Ld)(c:Int)(row:List Bool):Int:=if 0<(oS c row l (wg row 0,-1)).1\/(oS c row l (wg row 0,-1)).2<0 then 0 else(oS c row l (wg row 0,-1)).2
def Cf(l:List Ld)(left:List (List Bool)):Option Int->List Ld->Int->Int
 |_,[],n=>n
 |q,x::r,n=>Cf l left (some x.cls) r (if q=some x.cls then n else n+yR l x.cls (left.getD x.cls.toNat default))
def aaJ(n bX:Int):Int:=if 0<n/\bX=1099511627776 then 1099511627776 else min (n*bX) 1099511627776
def Ey(left:List (List Bool))(c:Ct):Int:=aaJ (max (Cf c.aY left none c.aY (-c.most)) 0) c.bX
def H7(left:List (List Bool)):Nat->List (List cg)->Int->Option Int
 |_,[],n=>some n
 |i,c::r,n=>if oR (bV c) (left.getD i default) 1099511627776=1099511627776 then none else H7 left (i+1) r (n+oR (bV c) (left.getD i default) 1099511627776)
def Ez(m:ah)(left:List (List Bool)):List Pr->Int->Option Int
 |[],n=>some n
 |p::r,n=>if H6 m left p=1099511627776 then none else Ez m left r (n+H6 m left p)
def EA(left:List (List Bool)):List Ct->Int->Option Int
 |[],n=>some n
 |c::r,n=>if Ey left c=1099511627776 then none else EA left r (n+Ey left c)
def EB:Option Int->Int
 |none=>1099511627776
 |some n=>min n 1099511627776
def EC(m:ah)(left:List (List Bool)):Option Int->Option Int
 |none=>none
 |some n=>EA left m.aC n
def H8(m:ah)(left:List (List Bool)):Option Int->Option Int
 |none=>none
 |some n=>Ez m left m.ae n
def BO(m:ah)(left:List (List Bool)):Int:=EB (EC m left (H8 m left (H7 left 0 m.cls 0)))
def wj(q:Int×Bool):Int:=if q.2=true then q.1 else 1099511627776
def MV:∀ (l:List Int) (s:List Bool) (b:Int×Bool),(∀ x∈l,bM x)->(b.2=true->b.1<1099511627776) ->
  wj (dp (dy l) s b)=oR l s (wj b)/\((dp (dy l) s b).2=true->(dp (dy l) s b).1<1099511627776)
 |[],s,b,_,hb=>⟨by cases s<;>rfl,hb⟩
 |x::r,[],b,_,hb=>⟨rfl,hb⟩
 |x::r,is::s,b,h,hb=>by
  have hx:=h x Iy;unfold bM at hx;rw[show dy (x::r)=ez x::dy r from rfl,dp,oR];have key:wj (if is=true/\(ez x).2=false/\(b.2=false\/(ez x).1<b.1) then((ez x).1,true) else b)=(if is=true then min (wj b) x else wj b):=by
   obtain⟨b1,b2⟩:=b;unfold ez wj;dsimp only at hb ⊢;cases is<;>cases b2<;>simp at hb ⊢<;>(repeat' split)<;>simp_all<;>omega
  have:=MV r s (if is=true/\(ez x).2=false/\(b.2=false\/(ez x).1<b.1) then((ez x).1,true) else b) (λy hy=>h y (by simp[hy])) (by
   split
   ·rename_i hc;intro _;have:=hc.2.1;unfold ez at this ⊢;simp at this;exact this
   ·exact hb)
  rw[key]at this;exact this
def aaK:∀ (l:List Int) (s t:List Bool) (n:Int),s.length<=l.length->oR l (s++t) n=oR (l.drop s.length) t (oR l s n)
 |l,[],t,n,_=>by cases l<;>rfl
 |[],b::s,t,n,h=>by simp at h
 |x::r,b::s,t,n,h=>by
  rw[List.cons_append,oR,oR,dt,List.drop_succ_cons];exact aaK r s t _ (by simpa using h)
def aaL(ax:List Int)(w i:Nat)(a:Bool):∀ (r:List Bool) (k:Nat) (n:Int),i*w+k+r.length<=ax.length->H4 ax w i a k r n=oR (ax.drop (i*w+k)) (r.map (a && ·)) n
 |[],k,n,_=>by cases(ax.drop (i*w+k))<;>rfl
 |b::r,k,n,h=>by
  have a6:i*w+k<ax.length:=by simp at h;omega
  have hd:ax.drop (i*w+k)=ax.getD (i*w+k) 0::ax.drop (i*w+(k+1)):=by
   rw[List.drop_eq_getElem_cons a6,aB,List.getElem?_eq_getElem a6];rfl
  rw[H4,hd,fV,oR,aaL ax w i a r (k+1) _ (by simp at h;omega)];congr 1;cases a<;>cases b<;>simp
def aaM(ax:List Int)(w:Nat)(rb:List Bool)(hw:rb.length=w):∀ (r:List Bool) (i:Nat) (n:Int),i*w+r.length*w<=ax.length->H5 ax w rb i r n=oR (ax.drop (i*w)) (qD r rb) n
 |[],i,n,_=>by show n=oR _ [] n;cases(ax.drop (i*w))<;>rfl
 |a::r,i,n,h=>by
  have h2:i*w+(r.length+1)*w<=ax.length:=h;rw[fN,wz]at h2;rw[H5,aaL ax w i a rb 0 n Ix,aaM ax w rb hw r (i+1) _ (by rw[fN];omega)];show _=oR _ (rb.map (a && ·)++qD r rb) n;rw[aaK _ _ _ _ (by rw[fW,List.length_drop];omega),List.drop_drop,fW,hw,fN,wz];simp only[iq]
def jy:List (Int×Bool)->Int->Option Int
 |[],n=>some n
 |p::r,n=>if p.2=false then none else jy r (n+p.1)
def H9:∀ (l:List (Int×Bool)) (n:Int),jy l n=if(bJ l (n,false)).2=true then none else some (bJ l (n,false)).1
 |[],n=>rfl
 |p::r,n=>by
  rw[jy];obtain⟨a,b⟩:=p;cases b
  ·show none=if(bJ r (n+a,true)).2=true then none else _;rw[DB,if_pos rfl]
  ·exact H9 r (n+a)
def aaN{m:ah}(hm:VM m)(left:List (List Bool)):∀ (k i:Nat) (n:Int),i+k=m.cls.length->H7 left i (m.cls.drop i) n=jy ((lH i k).map λj=>dp ((S0 m).getD j default) (left.getD j default) (0,false)) n
 |0,i,n,h=>by rw[jr Ix];rfl
 |k+1,i,n,h=>by
  have hi:i<m.cls.length:=Ix;have hs:(S0 m).getD i default=dy (bV (m.cls.getD i default)):=by rw[S0,iX _ _ _ hi]
  have h2:=MV (bV (m.cls.getD i default)) (left.getD i default) (0,false) (λx hx=>by
   obtain⟨o,ho,rfl⟩:=List.mem_map.1 hx;exact Dv (hm.rz _ (aG hi) o ho)) Iy
  rw[show wj (0,false)=1099511627776 from rfl]at h2;rw[j2 m.cls i default hi,H7,uU,fV,jy,aaN hm left k (i+1) _ Ix,hs,<- h2.1];generalize dp (dy (bV (m.cls.getD i default))) (left.getD i default) (0,false)=q at *;obtain⟨a,b⟩:=q;unfold wj at *;cases b<;>simp at h2 ⊢;intro e;omega
def aaO{m:ah}(hm:VM m){left:List (List Bool)}(hf:df m left):∀ (k i:Nat) (n:Int),i+k=m.ae.length->Ez m left (m.ae.drop i) n=jy ((lH i k).map λj=>dp ((T0 m).getD j default) (ik m left j) (0,false)) n
 |0,i,n,h=>by rw[jr Ix];rfl
 |k+1,i,n,h=>by
  have hi:i<m.ae.length:=Ix;have hs:(T0 m).getD i default=dy (m.ae.getD i default).ax:=by rw[T0,iX _ _ _ hi]
  have dO:=jP hm.pr _ (aG (d:=default) hi);obtain⟨_,p1,p2,p3,p4⟩:=qA dO;have f1:=hf.2 (m.ae.getD i default).fst.toNat (by rw[hf.1];omega);have f2:=hf.2 (m.ae.getD i default).snd.toNat (by rw[hf.1];omega);have h2:=MV (m.ae.getD i default).ax (ik m left i) (0,false) (GN dO) Iy;rw[show wj (0,false)=1099511627776 from rfl]at h2;have h3:H6 m left (m.ae.getD i default)=oR (m.ae.getD i default).ax (ik m left i) 1099511627776:=by
   unfold H6 ik;rw[aaM _ _ _ f2 _ 0 _ (by rw[E0,gm,f1];have:=p4;exact_mod_cast Int.le_of_eq this.symm),E0,List.drop_zero]
  rw[j2 m.ae i default hi,Ez,uU,fV,jy,aaO hm hf k (i+1) _ Ix,hs,h3,<- h2.1];generalize dp (dy (m.ae.getD i default).ax) (ik m left i) (0,false)=q at *;obtain⟨a,b⟩:=q;unfold wj at *;cases b<;>simp at h2 ⊢;intro e;omega
end T

