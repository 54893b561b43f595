import Derived.Test.YtfoopmojjjpapaaGreatX21
set_option linter.all false
set_option maxHeartbeats 0
set_option maxRecDepth 20000
open List renaming getD_eq_getElem?_getD→aB,getElem?_set→bY,getElem?_set_ne→gV,getD_cons_zero→im,getD_cons_succ→fM,range→bn,length_cons→dw,map_cons→fW,length_map→fX,range'→lH,drop_eq_nil_of_le→jr,range'_succ→uU
open Option renaming getD_some→pP
open Int renaming mul_le_mul_of_nonneg_right→EW,one_mul→IB,toNat_natCast→ep,toNat_of_nonneg→u6,le_refl→nt,lt_or_le→IA,eq_ofNat_of_zero_le→N5,zero_add→yV
open Bool renaming and_eq_true→aZ
open Nat renaming add_zero→iq,mul_comm→tN,div_eq_of_lt→NO,mul_add_mod→NM,mod_eq_of_lt→EY,zero_add→gn,add_mul→fN,one_mul→wx,zero_mul→EX
open Go Go.Am
namespace T
def aap(r:List Nm)(i q:Nat)(a:Int)(hi:i<r.length):(jn r i a).getD q default=if i=q then((r.getD q default).1+a,(r.getD q default).2) else r.getD q default:=by
 unfold jn;by_cases h:i=q
 ·subst h;rw[if_pos rfl];simp only[aB,bY,hi,if_true,pP]
 ·rw[if_neg h];simp only[aB,gV h]
def aaq(r:List Nm){i q:Nat}(a:Int)(h:i≠q):(jn r i a).getD q default=r.getD q default:=by
 unfold jn;simp only[aB,gV h]
def HS{f:Nat->Nat}{a:Int}{t:List Nm}{q:Nat}:∀ k:Nat,(∀ j,j<k->f j≠q)->(gv f a k t).getD q default=t.getD q default
 |0,_=>rfl
 |k+1,h=>by rw[gv,aaq _ _ (h k Iv),HS k λj hj=>h j Iv]
def MN{f:Nat->Nat}{a:Int}{t:List Nm}{q j0:Nat}(h0:f j0=q)(hq:q<t.length):∀ k:Nat,j0<k->(∀ j,j<k->j≠j0->f j≠q)->(gv f a k t).getD q default=((t.getD q default).1-a,(t.getD q default).2)
 |0,hk,_=>Iv
 |k+1,hk,h=>by
  rw[gv];by_cases e:j0=k
  ·subst e;rw[h0,aap _ _ _ _ (by rw[zU];exact hq),if_pos rfl,HS j0 λj hj=>h j Iv Iv];congr 1
  ·rw[aaq _ _ (h k Iv Iv),MN h0 hq k Iv λj hj=>h j Iv]
def HT{a b n j k:Int}(hj:0<=j/\j<n)(hk:0<=k/\k<n)(h:a*n+j=b*n+k):a=b/\j=k:=by
 rcases Int.lt_trichotomy a b with hl|hl|hl
 ·have:(a+1)*n<=b*n:=EW Iv Iv;rw[Int.add_mul,IB]at this;omega
 ·subst hl;omega
 ·have:(b+1)*n<=a*n:=EW Iv Iv;rw[Int.add_mul,IB]at this;omega
def lE(plan:List Int)(g:Lg)(i:Nat):Nm:=(g.1.getD i default).getD (plan.getD i 0).toNat default
def vZ(m:ah)(plan:List Int)(p:Pr):Nat:=(plan.getD p.fst.toNat 0*(m.cls.getD p.snd.toNat default).length+plan.getD p.snd.toNat 0).toNat
def lF(m:ah)(plan:List Int)(g:Lg)(i:Nat):Nm:=(g.2.getD i default).getD (vZ m plan (m.ae.getD i default)) default
def aar{α:Type}[Inhabited α](l:List α)(i j:Nat)(x:α)(hi:i<l.length):(l.set i x).getD j default=if i=j then x else l.getD j default:=by
 by_cases h:i=j
 ·subst h;rw[if_pos rfl];simp only[aB,bY,hi,if_true,pP]
 ·rw[if_neg h];simp only[aB,gV h]
structure HU(m:ah)(x:Mv):Prop where
 p:0<=x.pair/\x.pair<m.ae.length
 s:x.side=0\/x.side=1
 c:0<=eK m x/\eK m x<m.cls.length
 o:0<=x.opt/\x.opt<(m.cls.getD (eK m x).toNat default).length
def akd{m:ah}{x:Mv}(h:iC m x=true):HU m x:=by
 unfold iC at h;rw[aZ,decide_eq_true_eq,kR]at h;exact⟨Iv,Iv,Iv,Iv⟩
def qJ{m:ah}{plan:List Int}(hp:FP m plan){j:Nat}(hj:j<m.cls.length):0<=plan.getD j 0/\plan.getD j 0<(m.cls.getD j default).length:=by
 have h:=kR.1 (hp.get j (by rw[hp.len];exact hj));rw[ep]at h;exact h.2.2
abbrev Er(m:ah)(plan:List Int)(x:Mv):Prop:=plan.getD (eK m x).toNat 0=x.opt
def ake{m:ah}{plan:List Int}(hp:FP m plan){B:Int}{g:Lg}(h:LG m B g){x:Mv}(hx:HU m x)(i:Nat):
  lE plan (jE m x g) i=if i=(eK m x).toNat then(if Er m plan x then((lE plan g i).1+x.amt,(lE plan g i).2) else lE plan g i) else lE plan g i:=by
 obtain⟨hxp,dp,ui,v7⟩:=hx;have h1:=h.s;have h2:=h.sl (eK m x).toNat Iv;have h3:=qJ hp (j:=(eK m x).toNat) Iv;unfold lE jE Er;dsimp only;rw[aar _ _ _ _ Iv];by_cases e:i=(eK m x).toNat
 ·subst e;rw[if_pos rfl,if_pos rfl,aap _ _ _ _ Iv];by_cases e2:plan.getD (eK m x).toNat 0=x.opt
  ·rw[if_pos e2,if_pos (by rw[e2])]
  ·rw[if_neg e2,if_neg Iv]
 ·rw[if_neg (Ne.symm e),if_neg e]
def akg{m:ah}(hm:VM m){plan:List Int}(hp:FP m plan){B:Int}{g:Lg}(h:LG m B g){x:Mv}(hx:HU m x)(i:Nat):
  lF m plan (jE m x g) i=if i=x.pair.toNat then(if Er m plan x then((lF m plan g i).1-x.amt,(lF m plan g i).2) else lF m plan g i) else lF m plan g i:=by
 obtain⟨hxp,dp,ui,v7⟩:=hx;have h1:=h.t;have h2:=h.tl x.pair.toNat Iv;unfold lF jE;dsimp only;rw[aar _ _ _ _ Iv];by_cases e:i=x.pair.toNat;rotate_left
 ·rw[if_neg (Ne.symm e),if_neg e]
 subst e;rw[if_pos rfl,if_pos rfl];have dN:=jQ hm.pr _ (aG (l:=m.ae) (i:=x.pair.toNat) (d:=default) Iv);unfold Er;unfold eK at *;unfold nI vZ;generalize m.ae.getD x.pair.toNat default=p at *;obtain⟨q1,q2,q3,q4,q5⟩:=qz dN;have ha:=qJ hp (j:=p.fst.toNat) Iv;have hb:=qJ hp (j:=p.snd.toNat) Iv;have hl1:=hm.opt _ (aG (l:=m.cls) (i:=p.fst.toNat) (d:=default) Iv);have q8:=hm.opt _ (aG (l:=m.cls) (i:=p.snd.toNat) (d:=default) Iv);generalize g.2.getD x.pair.toNat default=t at *;generalize Mq:plan.getD p.fst.toNat 0=a at *;generalize lW:plan.getD p.snd.toNat 0=b at *;generalize D8:(m.cls.getD p.fst.toNat default).length=na at *;generalize akh:(m.cls.getD p.snd.toNat default).length=nb at *;have nN:=zL (x:=a) (y:=b) (a:=na) (b:=nb) ha hb Iv Iv;rcases dp with hs|hs
 ·rw[if_pos hs]at ui v7;rw[if_pos hs,if_pos hs,Mq];rw[D8]at v7;dsimp only;have G6:=zL (x:=x.opt) (y:=b) (a:=na) (b:=nb) v7 hb Iv Iv;by_cases e2:a=x.opt
  ·rw[if_pos e2];refine MN (j0:=b.toNat) ?_ Iv nb Iv λj hj cz he=>?_
   ·rw[e2,u6 hb.1]
   ·have:=HT (a:=x.opt) (b:=a) (n:=nb) (j:=j) (k:=b) Iv Iv Iv;omega
  ·rw[if_neg e2];refine HS nb λj hj he=>?_;have:=HT (a:=x.opt) (b:=a) (n:=nb) (j:=j) (k:=b) Iv Iv Iv;omega
 ·rw[if_neg Iv]at ui v7;have w0:¬ x.side=0:=Iv;rw[if_neg w0,if_neg w0,lW];rw[akh]at v7;dsimp only;by_cases e2:b=x.opt
  ·rw[if_pos e2];refine MN (j0:=a.toNat) ?_ Iv na Iv λj hj cz he=>?_
   ·rw[e2,u6 ha.1]
   ·have zw:=zL (x:=(j:Int)) (y:=x.opt) (a:=na) (b:=nb) Iv v7 Iv Iv;have:=HT (a:=(j:Int)) (b:=a) (n:=nb) (j:=x.opt) (k:=b) Iv Iv Iv;omega
  ·rw[if_neg e2];refine HS na λj hj he=>?_;have zw:=zL (x:=(j:Int)) (y:=x.opt) (a:=na) (b:=nb) Iv v7 Iv Iv;have:=HT (a:=(j:Int)) (b:=a) (n:=nb) (j:=x.opt) (k:=b) Iv Iv Iv;omega
def xr(m:ah)(plan:List Int)(g:Lg):Int:=bD (λi=>(lE plan g i).1) m.cls.length+bD (λi=>(lF m plan g i).1) m.ae.length
def aki{m:ah}(hm:VM m){plan:List Int}(hp:FP m plan){B:Int}{g:Lg}(h:LG m B g){x:Mv}(hx:HU m x):
  xr m plan (jE m x g)=xr m plan g/\(∀ i,(lE plan (jE m x g) i).2=(lE plan g i).2)/\∀ i,(lF m plan (jE m x g) i).2=(lF m plan g i).2:=by
 have hS:=ake hp h hx;have hT:=akg hm hp h hx;refine⟨?_,λi=>?_,λi=>?_⟩
 ·unfold xr;by_cases hh:Er m plan x
  ·rw[iM (g:=λi=>if i=(eK m x).toNat then(lE plan g i).1+x.amt else(lE plan g i).1) m.cls.length λi _=>by
    rw[hS,if_pos hh];split<;>rfl,iM (g:=λi=>if i=x.pair.toNat then(lF m plan g i).1+-x.amt else(lF m plan g i).1) m.ae.length λi _=>by
    rw[hT,if_pos hh];split<;>rfl,yo,yo,if_pos (by have:=hx.c;omega),if_pos (by have:=hx.p;omega)]
   omega
  ·rw[iM (g:=λi=>(lE plan g i).1) m.cls.length λi _=>by rw[hS,if_neg hh];simp,iM (g:=λi=>(lF m plan g i).1) m.ae.length λi _=>by rw[hT,if_neg hh];simp]
 ·rw[hS];split<;>(try split)<;>rfl
 ·rw[hT];split<;>(try split)<;>rfl
def aas{m:ah}(hm:VM m){plan:List Int}(hp:FP m plan):∀ (l:List Mv) (B:Int) (g:Lg),0<=B->LG m B g->(∀ x∈l,iC m x=true) ->
  xr m plan (iD m l g)=xr m plan g/\(∀ i,(lE plan (iD m l g) i).2=(lE plan g i).2)/\∀ i,(lF m plan (iD m l g) i).2=(lF m plan g i).2
 |[],B,g,_,_,_=>⟨rfl,λ_=>rfl,λ_=>rfl⟩
 |x::r,B,g,hB,h,hx=>by
  have h1:=aki hm hp h (akd (hx x Iw));have h2:=aas hm hp r _ (jE m x g) Iv (Wy hm hB h (hx x Iw)) (λy hy=>hx y (by simp[hy]));exact⟨h2.1.trans h1.1,λi=>(h2.2.1 i).trans (h1.2.1 i),λi=>(h2.2.2 i).trans (h1.2.2 i)⟩
def HV:∀ (l:List Nm) (s:List Bool) (b:Int×Bool),b.2=true->(dm l s b).2=true/\(dm l s b).1<=b.1
 |[],s,b,h=>by cases s<;>exact⟨h,nt _⟩
 |p::r,[],b,h=>⟨h,nt _⟩
 |p::r,is::s,b,h=>by
  rw[dm];split
  ·rename_i hc;have h2:=HV r s (p.1,true) rfl;have h3:p.1<b.1:=by
    rcases hc.2.2 with h4|h4
    ·rw[h]at h4;cases h4
    ·exact h4
   exact⟨h2.1,by have:=h2.2;dsimp only at this;omega⟩
  ·exact HV r s b h
def MO:∀ (l:List Nm) (s:List Bool) (b:Int×Bool) (i:Nat),i<l.length->s.getD i false=true->(l.getD i default).2=false->(dm l s b).2=true/\(dm l s b).1<=(l.getD i default).1
 |[],s,b,i,h,_,_=>by simp at h
 |p::r,[],b,i,_,h,_=>by simp at h
 |p::r,is::s,b,0,_,h1,h2=>by
  rw[im]at h1 h2 ⊢;rw[dm];split
  ·exact HV r s (p.1,true) rfl
  ·rename_i hc;have hb:b.2=true/\b.1<=p.1:=by
    cases oF:b.2 with
    |false=>exact absurd ⟨h1,h2,.inl oF⟩ hc
    |true=>exact⟨rfl,by rcases IA p.1 b.1 with h|h;exact absurd ⟨h1,h2,.inr h⟩ hc;exact h⟩
   have:=HV r s b hb.1;exact⟨this.1,Iv⟩
 |p::r,is::s,b,i+1,h,h1,h2=>by
  rw[fM]at h1 h2 ⊢;rw[dm];exact MO r s _ i (by simpa using h) h1 h2
def aat:∀ (l:List Nm) (s:List Bool) (b:Int×Bool),(∀ i,s.getD i false=false)->dm l s b=b
 |[],s,b,_=>by cases s<;>rfl
 |p::r,[],b,_=>rfl
 |p::r,is::s,b,h=>by
  have h0:=h 0;rw[im]at h0;rw[dm,if_neg (by rw[h0];simp)];exact aat r s b λi=>by have:=h (i+1);rwa [fM]at this
def MP:∀ (l:List Nm) (s:List Bool) (b:Int×Bool) (i:Nat),i<l.length->(∀ j,s.getD j false=decide (j=i))->b.2=false ->
  dm l s b=if(l.getD i default).2=false then((l.getD i default).1,true) else b
 |[],s,b,i,h,_,_=>by simp at h
 |p::r,[],b,i,_,h,_=>by have:=h i;simp at this
 |p::r,is::s,b,0,_,h,hb=>by
  have h0:=h 0;rw[im,decide_eq_true rfl]at h0;rw[im,dm,aat r s _ λi=>by have:=h (i+1);rw[fM]at this;rw[this];simp];by_cases hp:p.2=false
  ·rw[if_pos ⟨h0,hp,.inl hb⟩,if_pos hp]
  ·rw[if_neg (λhc=>hp hc.2.1),if_neg hp]
 |p::r,is::s,b,i+1,hi,h,hb=>by
  have h0:=h 0;rw[im,decide_eq_false Iv]at h0;rw[fM,dm,if_neg (by rw[h0];simp)];exact MP r s b i (by simpa using hi) (λj=>by have:=h (j+1);rw[fM]at this;rw[this];simp) hb
def HW(f:Nat->Int×Bool)(z:Int×Bool):∀ n,(bJ ((bn n).map f) z).1=z.1+bD (λi=>(f i).1) n
 |0=>by simp[bJ,bD]
 |n+1=>by rw[yu,BG,bD];dsimp only;rw[HW f z n];omega
def Ax(f:Nat->Int×Bool)(z:Int×Bool):∀ n,(bJ ((bn n).map f) z).2=true↔(z.2=true\/∃ i,i<n/\(f i).2=false)
 |0=>by simp[bJ]
 |n+1=>by
  rw[yu,BG];dsimp only;rw[Bool.or_eq_true,Ax f z n,Bool.not_eq_true'];constructor
  ·rintro((h|⟨i,hi,h⟩)|h)
   ·exact .inl h
   ·exact .inr ⟨i,Iv,h⟩
   ·exact .inr ⟨n,Iv,h⟩
  ·rintro(h|⟨i,hi,h⟩)
   ·exact .inl (.inl h)
   ·by_cases e:i=n
    ·subst e;exact .inr h
    ·exact .inl (.inr ⟨i,Iv,h⟩)
def v8(left:List (List Bool))(g:Lg)(i:Nat):Int×Bool:=dm (g.1.getD i default) (left.getD i default) (0,false)
def wa(m:ah)(left:List (List Bool))(g:Lg)(i:Nat):Int×Bool:=dm (g.2.getD i default) (ik m left i) (0,false)
def rS(m:ah)(left:List (List Bool))(i:Nat):Int×Bool:=(iL left (m.aC.getD i default),!(decide ((m.aC.getD i default).bX=1099511627776)&&decide (0<iL left (m.aC.getD i default))))
def Es(m:ah)(left:List (List Bool))(g:Lg):Int:=bD (λi=>(v8 left g i).1) m.cls.length+bD (λi=>(wa m left g i).1) m.ae.length+bD (λi=>(rS m left i).1) m.aC.length
def MQ(m:ah)(left:List (List Bool))(g:Lg):Prop:=(∃ i,i<m.cls.length/\(v8 left g i).2=false)\/(∃ i,i<m.ae.length/\(wa m left g i).2=false)\/∃ i,i<m.aC.length/\(rS m left i).2=false
def akj{m:ah}{left:List (List Bool)}{g:Lg}(h:MQ m left g):lq m left g=1099511627776:=by
 unfold lq;rw[if_pos];show(bJ ((bn m.aC.length).map (rS m left)) (bJ ((bn m.ae.length).map (wa m left g)) (bJ ((bn m.cls.length).map (v8 left g)) (0,false)))).2=true;rw[Ax,Ax,Ax];rcases h with h|h|h
 ·exact .inl (.inl (.inr h))
 ·exact .inl (.inr h)
 ·exact .inr h
def aau{m:ah}{left:List (List Bool)}{g:Lg}(h:¬ MQ m left g):lq m left g=min (Es m left g) 1099511627776:=by
 have h1:¬ (bJ ((bn m.aC.length).map (rS m left)) (bJ ((bn m.ae.length).map (wa m left g)) (bJ ((bn m.cls.length).map (v8 left g)) (0,false)))).2=true:=by
  rw[Ax,Ax,Ax];rintro(((h2|h2)|h2)|h2)
  ·cases h2
  ·exact h (.inl h2)
  ·exact h (.inr (.inl h2))
  ·exact h (.inr (.inr h2))
 have h2:(bJ ((bn m.aC.length).map (rS m left)) (bJ ((bn m.ae.length).map (wa m left g)) (bJ ((bn m.cls.length).map (v8 left g)) (0,false)))).1=Es m left g:=by
  rw[HW,HW,HW];unfold Es;dsimp only;omega
 show(if(bJ ((bn m.aC.length).map (rS m left)) (bJ ((bn m.ae.length).map (wa m left g)) (bJ ((bn m.cls.length).map (v8 left g)) (0,false)))).2=true then(1099511627776:Int) else min (bJ ((bn m.aC.length).map (rS m left)) (bJ ((bn m.ae.length).map (wa m left g)) (bJ ((bn m.cls.length).map (v8 left g)) (0,false)))).1 1099511627776)=_;rw[if_neg h1,h2]
def akk(m:ah)(left:List (List Bool))(g:Lg):lq m left g<=1099511627776:=by
 unfold lq;split<;>omega
def HX:∀ (l:List Ld) (c o w:Int),(∀ y∈l,¬ (y.cls=c/\y.opt=o))->fH l c o w=w
 |[],_,_,_,_=>rfl
 |x::r,c,o,w,h=>by rw[fH,if_neg (h x Iw),HX r c o w λy hy=>h y (by simp[hy])]
def aav{m:ah}:∀ {l:List Ld} {q:Option Ld} (c o:Int),er m q l=true->fH l c o 0=uG l c o
 |[],_,_,_,_=>rfl
 |x::r,q,c,o,h=>by
  have hr:er m (some x) r=true:=by
   cases q<;>rw[er]at h<;>simp only[aZ]at h<;>exact h.2
  rw[fH,uG];by_cases e:x.cls=c/\x.opt=o
  ·rw[if_pos e,if_pos e];exact HX r c o _ λy hy he=>by have:=yx hr y hy;omega
  ·rw[if_neg e,if_neg e];exact aav c o hr
def aaw(l:List Ld):∀ (plan:List Int) (i:Nat),s6 l i plan=bD (λj=>uG l (i+j:Nat) (plan.getD j 0)) plan.length
 |[],i=>rfl
 |o::r,i=>by
  rw[s6,aaw l r (i+1),dw,yp];simp only[im,fM,iq];rw[iM (g:=λj=>uG l (i+(j+1):Nat) (r.getD j 0)) r.length λj _=>by rw[show i+1+j=i+(j+1) by omega]]
def Cc{l:List Ld}(h:∀ x∈l,1<=x.wt/\x.wt<=1000)(c:Int):∀ (row:List Bool) (o:Nat) (b:Int),0<=b->0<=dG l c o row b/\dG l c o row b<=b
 |[],_,b,hb=>⟨hb,nt _⟩
 |is::r,o,b,hb=>by
  rw[dG];have hw:=ye h c o 0 Iv;split
  ·rename_i hc;have:=Cc h c r (o+1) (fH l c o 0) hw.1;omega
  ·exact Cc h c r (o+1) b hb
def HY{l:List Ld}(h:∀ x∈l,1<=x.wt/\x.wt<=1000)(c:Int):∀ (row:List Bool) (o:Nat) (b:Int) (i:Nat),row.getD i false=true->dG l c o row b<=fH l c (o+i:Nat) 0
 |[],_,b,i,hi=>by simp at hi
 |is::r,o,b,0,hi=>by
  rw[im]at hi;have hw:=ye h c o 0 Iv;rw[dG];simp only[iq];split
  ·exact(Cc h c r (o+1) _ hw.1).2
  ·rename_i hc;have hb:0<=b/\b<=fH l c o 0:=by
    constructor
    ·rcases IA b 0 with h2|h2
     ·exact absurd ⟨hi,.inl h2⟩ hc
     ·exact h2
    ·rcases IA (fH l c o 0) b with h2|h2
     ·exact absurd ⟨hi,.inr h2⟩ hc
     ·exact h2
   have:=Cc h c r (o+1) b hb.1;omega
 |is::r,o,b,i+1,hi=>by
  rw[fM]at hi;rw[dG,show o+(i+1)=o+1+i by omega];exact HY h c r (o+1) _ i hi
def MR(l:List Ld)(c:Int):∀ (row:List Bool) (o:Nat) (b:Int),(∀ i,row.getD i false=false)->dG l c o row b=b
 |[],_,_,_=>rfl
 |is::r,o,b,h=>by
  have h0:=h 0;rw[im]at h0;rw[dG,if_neg (by rw[h0];simp)];exact MR l c r (o+1) b λi=>by have:=h (i+1);rwa [fM]at this
def aax(l:List Ld)(c:Int):∀ (row:List Bool) (o:Nat) (i:Nat),(∀ j,row.getD j false=decide (j=i))->dG l c o row (-1)=fH l c (o+i:Nat) 0
 |[],_,i,h=>by have:=h i;simp at this
 |is::r,o,0,h=>by
  have h0:=h 0;rw[im,decide_eq_true rfl]at h0;rw[dG,if_pos ⟨h0,.inl NF⟩,iq];exact MR l c r (o+1) _ λj=>by have:=h (j+1);rw[fM]at this;rw[this];simp
 |is::r,o,i+1,h=>by
  have h0:=h 0;rw[im,decide_eq_false Iv]at h0;rw[dG,if_neg (by rw[h0];simp),show o+(i+1)=o+1+i by omega];exact aax l c r (o+1) i λj=>by have:=h (j+1);rw[fM]at this;rw[this];simp
def HZ{f:Nat->Int}:∀ (n:Nat),(∀ i<n,0<=f i)->0<=bD f n/\∀ i<n,f i<=bD f n
 |0,_=>⟨nt _,λi h=>Iv⟩
 |n+1,h=>by
  have h1:=HZ n λi hi=>h i Iv;have h2:=h n Iv;rw[bD];refine⟨Iv,λi hi=>?_⟩;by_cases e:i=n
  ·subst e;omega
  ·have:=h1.2 i Iv;omega
def Et{f g:Nat->Int}:∀ (n:Nat),(∀ i<n,f i<=g i)->bD f n<=bD g n
 |0,_=>nt _
 |n+1,h=>by
  have:=Et n λi hi=>h i Iv;have:=h n Iv;rw[bD,bD];omega
def akl{m:ah}{plan:List Int}(hm:VM m)(hp:FP m plan){i:Nat}(hi:i<m.cls.length):bM (uF m plan i):=by
 have h:=qJ hp hi;have hl:=aG (l:=m.cls) (i:=i) (d:=default) hi;exact Dt (hm.ry _ hl _ (aG (l:=m.cls.getD i default) (i:=(plan.getD i 0).toNat) (d:=default) Iv))
def sg0{m:ah}{plan:List Int}(hp:FP m plan){i:Nat}(hi:i<m.cls.length):lE plan (S0 m,T0 m) i=ez (uF m plan i):=by
 have h:=qJ hp hi;unfold lE S0;dsimp only;rw[iX _ _ _ hi];unfold dy bV;rw[List.map_map,iX _ _ _ Iv];rfl
def aaz{m:ah}{plan:List Int}(hm:VM m)(hp:FP m plan){p:Pr}(dN:gB m p=true):vZ m plan p<p.ax.length:=by
 obtain⟨q1,q2,q3,q4,q5⟩:=qz dN;have ha:=qJ hp (j:=p.fst.toNat) Iv;have hb:=qJ hp (j:=p.snd.toNat) Iv;have hl1:=hm.opt _ (aG (l:=m.cls) (i:=p.fst.toNat) (d:=default) Iv);have q8:=hm.opt _ (aG (l:=m.cls) (i:=p.snd.toNat) (d:=default) Iv);have nN:=zL ha hb Iv Iv;unfold vZ;omega
def tg0{m:ah}{plan:List Int}(hm:VM m)(hp:FP m plan){i:Nat}(hi:i<m.ae.length):lF m plan (S0 m,T0 m) i=ez (rC m plan (m.ae.getD i default)):=by
 have dN:=jQ hm.pr _ (aG (l:=m.ae) (i:=i) (d:=default) hi);have nN:=aaz hm hp dN;unfold lF T0;dsimp only;rw[iX _ _ _ hi];unfold dy;rw[iX _ _ _ nN];unfold rC zK vZ;rfl
def akm{m:ah}{left:List (List Bool)}(hm:VM m)(hf:df m left){i:Nat}(hi:i<m.ae.length){x y:Int}(hx:0<=x/\x<(m.cls.getD (m.ae.getD i default).fst.toNat default).length)(hy:0<=y/\y<(m.cls.getD (m.ae.getD i default).snd.toNat default).length):
  (ik m left i).getD (x*(m.cls.getD (m.ae.getD i default).snd.toNat default).length+y).toNat false=((left.getD (m.ae.getD i default).fst.toNat default).getD x.toNat false&&(left.getD (m.ae.getD i default).snd.toNat default).getD y.toNat false):=by
 have dN:=jQ hm.pr _ (aG (l:=m.ae) (i:=i) (d:=default) hi);unfold ik;generalize m.ae.getD i default=p at *;obtain⟨q1,q2,q3,q4,q5⟩:=qz dN;have hl1:=hm.opt _ (aG (l:=m.cls) (i:=p.fst.toNat) (d:=default) Iv);have q8:=hm.opt _ (aG (l:=m.cls) (i:=p.snd.toNat) (d:=default) Iv);have nN:=zL hx hy Iv Iv;have f1:=hf.2 p.fst.toNat (by have:=hf.1;omega);have f2:=hf.2 p.snd.toNat (by have:=hf.1;omega);rw[<- f1]at hx nN;rw[<- f2]at hy nN ⊢;generalize left.getD p.fst.toNat default=a at *;generalize left.getD p.snd.toNat default=b at *;obtain⟨x,rfl⟩:=N5 hx.1;obtain⟨y,rfl⟩:=N5 hy.1;have e:((x:Int)*b.length+y).toNat=x*b.length+y:=by
  rw[show((x:Int)*b.length+y)=((x*b.length+y:Nat):Int) by simp,ep]
 have e2:x*b.length+y<a.length*b.length:=by
  have:=nN.2.2;rw[show((x:Int)*b.length+y)=((x*b.length+y:Nat):Int) by simp,show(a.length:Int)*b.length=((a.length*b.length:Nat):Int) by simp]at this;omega
 have FN:y<b.length:=Iv;rw[e,GN _ _ _ e2,ep,ep,tN x,Nat.mul_add_div Iv,NO FN,NM,EY FN,iq]
def aaB{m:ah}{plan:List Int}(hp:FP m plan){c:Ct}(hc:iV m c=true):yl plan c.aY 0=bD (λj=>fH c.aY (j:Nat) (plan.getD j 0) 0) m.cls.length:=by
 obtain⟨_,_,_,q4⟩:=sX hc;rw[W7 hp.len 0 q4,aaw,yV,hp.len];exact iM _ λj _=>by rw[gn,aav _ _ q4]
def Eu(m:ah)(left:List (List Bool))(plan:List Int):Prop:=∀ i,i<m.cls.length->(left.getD i default).getD (plan.getD i 0).toNat false=true
def DF(m:ah)(left:List (List Bool))(plan:List Int):Prop:=∀ i,i<m.cls.length->∀ j,(left.getD i default).getD j false=decide (j=(plan.getD i 0).toNat)
def least_le{m:ah}{plan:List Int}{left:List (List Bool)}(hm:VM m)(hp:FP m plan)(hf:df m left)(eP:Eu m left plan){c:Ct}(hc:iV m c=true):iL left c<=nJ plan c:=by
 obtain⟨_,_,q3,q4⟩:=sX hc;have hw:∀ x∈c.aY,1<=x.wt/\x.wt<=1000:=λx hx=>(vG q4 x hx).2;refine afX (uz q3).1 ?_;rw[Bz,aaB hp hc,yV,hf.1];refine Et _ λj hj=>?_;have hg:=qJ hp hj;have h1:=HY hw (j:Nat) (left.getD j []) 0 (-1) (plan.getD j 0).toNat (eP j hj);have h2:=ye hw (j:Nat) (plan.getD j 0) 0 Iv;rw[gn,u6 hg.1]at h1;unfold lX;rw[gn];omega
def akn{m:ah}{plan:List Int}{left:List (List Bool)}(hm:VM m)(hp:FP m plan)(hf:df m left)(eP:DF m left plan){c:Ct}(hc:iV m c=true):iL left c=nJ plan c:=by
 obtain⟨_,_,q3,q4⟩:=sX hc;have hw:∀ x∈c.aY,1<=x.wt/\x.wt<=1000:=λx hx=>(vG q4 x hx).2;unfold iL nJ;congr 1;rw[Bz,aaB hp hc,yV,hf.1];refine iM _ λj hj=>?_;have hg:=qJ hp hj;have h1:=aax c.aY (j:Nat) (left.getD j []) 0 (plan.getD j 0).toNat (eP j hj);have h2:=ye hw (j:Nat) (plan.getD j 0) 0 Iv;rw[gn,u6 hg.1]at h1;unfold lX;rw[gn,h1];omega
def ako{m:ah}{plan:List Int}{c:Ct}(hc:iV m c=true):bM (nJ plan c):=Ks (uz (sX hc).2.2.1)
def aaC{most s:Int}(h:0<kQ most 1099511627776 s):kQ most 1099511627776 s=1099511627776:=by
 unfold kQ at *;split at h
 ·omega
 ·rename_i h2;rw[if_neg h2];omega
def akp{m:ah}{plan:List Int}{p:Pr}(h:gB m p=true):bM (rC m plan p):=Kt h _ _
structure akq(m:ah)(plan:List Int)(left:List (List Bool))(g:Lg):Prop where
 ka:vF (ym m plan) 0=min (bD (uF m plan) m.cls.length+bD (λi=>rC m plan (m.ae.getD i default)) m.ae.length+bD (λi=>nJ plan (m.aC.getD i default)) m.aC.length) 1099511627776
 ps:xr m plan g=bD (uF m plan) m.cls.length+bD (λi=>rC m plan (m.ae.getD i default)) m.ae.length
 sf:∀ i,i<m.cls.length->(lE plan g i).2=decide (1099511627776<=uF m plan i)
 tf:∀ i,i<m.ae.length->(lF m plan g i).2=decide (1099511627776<=rC m plan (m.ae.getD i default))
 sl:∀ i,i<m.cls.length->(plan.getD i 0).toNat<(g.1.getD i default).length
 tl:∀ i,i<m.ae.length->vZ m plan (m.ae.getD i default)<(g.2.getD i default).length
 a:0<=bD (uF m plan) m.cls.length/\∀ i<m.cls.length,uF m plan i<=bD (uF m plan) m.cls.length
 b:0<=bD (λi=>rC m plan (m.ae.getD i default)) m.ae.length/\∀ i<m.ae.length,rC m plan (m.ae.getD i default)<=bD (λi=>rC m plan (m.ae.getD i default)) m.ae.length
 c:0<=bD (λi=>nJ plan (m.aC.getD i default)) m.aC.length/\∀ i<m.aC.length,nJ plan (m.aC.getD i default)<=bD (λi=>nJ plan (m.aC.getD i default)) m.aC.length
def parts{m:ah}{plan:List Int}(hm:VM m)(hp:FP m plan)(left:List (List Bool))(l:List Mv)(hl:∀ x∈l,iC m x=true):akq m plan left (iD m l (S0 m,T0 m)):=by
 have fK:=aas hm hp l _ _ NF (WD hm) hl;have kC:=GL hm l hl;refine⟨afQ hm hp,?_,λi hi=>?_,λi hi=>?_,λi hi=>?_,λi hi=>?_,HZ _ λi hi=>(akl hm hp hi).1,HZ _ λi hi=>(akp (jQ hm.pr _ (aG hi))).1,HZ _ λi hi=>(ako (hm.ct _ (aG hi))).1⟩
 ·rw[fK.1];unfold xr;rw[iM m.cls.length λi hi=>by rw[sg0 hp hi],iM m.ae.length λi hi=>by rw[tg0 hm hp hi]];rfl
 ·rw[fK.2.1,sg0 hp hi];rfl
 ·rw[fK.2.2,tg0 hm hp hi];rfl
 ·have:=qJ hp hi;rw[kC.sl i hi];omega
 ·rw[kC.tl i hi];exact aaz hm hp (jQ hm.pr _ (aG hi))
def akr{m:ah}{plan:List Int}{left:List (List Bool)}(hm:VM m)(hp:FP m plan)(hf:df m left)(eP:Eu m left plan){i:Nat}(hi:i<m.ae.length):(ik m left i).getD (vZ m plan (m.ae.getD i default)) false=true:=by
 have dN:=jQ hm.pr _ (aG (l:=m.ae) (i:=i) (d:=default) hi);obtain⟨q1,q2,q3,q4,q5⟩:=qz dN;unfold vZ;rw[akm hm hf hi (qJ hp Iv) (qJ hp Iv),eP _ Iv,eP _ Iv];rfl
def aks{m:ah}{plan:List Int}{left:List (List Bool)}(hm:VM m)(hp:FP m plan)(hf:df m left)(ot:DF m left plan){i:Nat}(hi:i<m.ae.length)(j:Nat):(ik m left i).getD j false=decide (j=vZ m plan (m.ae.getD i default)):=by
 have dN:=jQ hm.pr _ (aG (l:=m.ae) (i:=i) (d:=default) hi);obtain⟨q1,q2,q3,q4,q5⟩:=qz dN;have g1:=qJ hp (j:=(m.ae.getD i default).fst.toNat) Iv;have g2:=qJ hp (j:=(m.ae.getD i default).snd.toNat) Iv;have o1:=ot (m.ae.getD i default).fst.toNat Iv;have o2:=ot (m.ae.getD i default).snd.toNat Iv;have f1:=hf.2 (m.ae.getD i default).fst.toNat (by have:=hf.1;omega);have f2:=hf.2 (m.ae.getD i default).snd.toNat (by have:=hf.1;omega);unfold ik vZ;generalize m.ae.getD i default=p at *;rw[<- f1]at g1;rw[<- f2]at g2 ⊢;generalize left.getD p.fst.toNat default=a at *;generalize left.getD p.snd.toNat default=b at *;generalize plan.getD p.fst.toNat 0=x at *;generalize plan.getD p.snd.toNat 0=y at *;obtain⟨x,rfl⟩:=N5 g1.1;obtain⟨y,rfl⟩:=N5 g2.1;simp only[ep]at o1 o2;have hx:x<a.length:=Iv;have hy:y<b.length:=Iv;have e:((x:Int)*b.length+y).toNat=x*b.length+y:=by
  rw[show((x:Int)*b.length+y)=((x*b.length+y:Nat):Int) by simp,ep]
 rw[e];by_cases hj:j<a.length*b.length
 ·rw[GN _ _ _ hj,o1,o2,<- Bool.decide_and];have hdm:=Nat.div_add_mod j b.length;have Fg:=Nat.mod_lt j (show 0<b.length by omega);refine decide_eq_decide.2 ⟨λ⟨h1,h2⟩=>?_,λh=>?_⟩
  ·rw[h1,h2,tN]at hdm;exact hdm.symm
  ·rw[h,tN x,Nat.mul_add_div Iv,NO hy,NM,EY hy];exact⟨rfl,rfl⟩
 ·rw[aB,List.getElem?_eq_none (by rw[Dy];omega),Option.getD_none,decide_eq_false];intro h;have h3:(x+1)*b.length<=a.length*b.length:=Nat.mul_le_mul_right _ hx;rw[fN,wx]at h3;omega
def af9{m:ah}{plan:List Int}(hm:VM m)(hp:FP m plan)(left:List (List Bool))(hf:df m left)(eP:Eu m left plan)(l:List Mv)(hl:∀ x∈l,iC m x=true):
  lq m left (iD m l (S0 m,T0 m))<=vF (ym m plan) 0:=by
 have P:=parts hm hp left l hl;generalize iD m l (S0 m,T0 m)=g at *;rw[P.ka];have ha:=P.a;have hb:=P.b;have hc:=P.c;have fK:=P.ps;have amN:=akk m left g;by_cases hF:1099511627776<=bD (uF m plan) m.cls.length+bD (λi=>rC m plan (m.ae.getD i default)) m.ae.length+bD (λi=>nJ plan (m.aC.getD i default)) m.aC.length
 ·omega
 have e1:∀ i,i<m.cls.length->(v8 left g i).2=true/\(v8 left g i).1<=(lE plan g i).1:=λi hi=>by
  have:=ha.2 i hi;exact MO _ _ _ _ (P.sl i hi) (eP i hi) (by show(lE plan g i).2=false;rw[P.sf i hi,decide_eq_false Iv])
 have e2:∀ i,i<m.ae.length->(wa m left g i).2=true/\(wa m left g i).1<=(lF m plan g i).1:=λi hi=>by
  have:=hb.2 i hi;exact MO _ _ _ _ (P.tl i hi) (akr hm hp hf eP hi) (by show(lF m plan g i).2=false;rw[P.tf i hi,decide_eq_false Iv])
 have e3:∀ i,i<m.aC.length->(rS m left i).2=true/\(rS m left i).1<=nJ plan (m.aC.getD i default):=λi hi=>by
  have h1:=hc.2 i hi;have yH:=hm.ct _ (aG (l:=m.aC) (i:=i) (d:=default) hi);have h2:=least_le hm hp hf eP yH;refine⟨?_,h2⟩;unfold rS;dsimp only;cases hz:(decide ((m.aC.getD i default).bX=1099511627776)&&decide (0<iL left (m.aC.getD i default))) with
  |false=>rfl
  |true =>
   exfalso;rw[aZ,decide_eq_true_eq,decide_eq_true_eq]at hz;have h3:nJ plan (m.aC.getD i default)=1099511627776:=by
    unfold nJ at h2 ⊢;rw[hz.1]at h2 ⊢;exact aaC Iv
   omega
 rw[aau]
 ·have s1:=Et m.cls.length λi hi=>(e1 i hi).2;have s2:=Et m.ae.length λi hi=>(e2 i hi).2;have s3:=Et m.aC.length λi hi=>(e3 i hi).2;unfold Es;unfold xr at fK;omega
 ·rintro(⟨i,hi,h⟩|⟨i,hi,h⟩|⟨i,hi,h⟩)
  ·rw[(e1 i hi).1]at h;cases h
  ·rw[(e2 i hi).1]at h;cases h
  ·rw[(e3 i hi).1]at h;cases h
def XK{m:ah}{plan:List Int}(hm:VM m)(hp:FP m plan)(left:List (List Bool))(hf:df m left)(ot:DF m left plan)(l:List Mv)(hl:∀ x∈l,iC m x=true):
  lq m left (iD m l (S0 m,T0 m))=vF (ym m plan) 0:=by
 have P:=parts hm hp left l hl;generalize iD m l (S0 m,T0 m)=g at *;rw[P.ka];have ha:=P.a;have hb:=P.b;have hc:=P.c;have fK:=P.ps;have e1:∀ i,i<m.cls.length->v8 left g i=if(lE plan g i).2=false then((lE plan g i).1,true) else(0,false):=λi hi =>
  MP _ _ _ _ (P.sl i hi) (ot i hi) rfl
 have e2:∀ i,i<m.ae.length->wa m left g i=if(lF m plan g i).2=false then((lF m plan g i).1,true) else(0,false):=λi hi =>
  MP _ _ _ _ (P.tl i hi) (aks hm hp hf ot hi) rfl
 have e3:∀ i,i<m.aC.length->iL left (m.aC.getD i default)=nJ plan (m.aC.getD i default):=λi hi =>
  akn hm hp hf ot (hm.ct _ (aG hi))
 by_cases hN:MQ m left g
 ·rw[akj hN];rcases hN with⟨i,hi,h⟩|⟨i,hi,h⟩|⟨i,hi,h⟩
  ·rw[e1 i hi,P.sf i hi]at h;have:=ha.2 i hi;by_cases hx:1099511627776<=uF m plan i
   ·omega
   ·rw[decide_eq_false hx,if_pos rfl]at h;cases h
  ·rw[e2 i hi,P.tf i hi]at h;have:=hb.2 i hi;by_cases hx:1099511627776<=rC m plan (m.ae.getD i default)
   ·omega
   ·rw[decide_eq_false hx,if_pos rfl]at h;cases h
  ·have h1:=hc.2 i hi;unfold rS at h;dsimp only at h;rw[e3 i hi,Bool.not_eq_false',aZ,decide_eq_true_eq,decide_eq_true_eq]at h;have h3:nJ plan (m.aC.getD i default)=1099511627776:=by
    obtain⟨h4,h5⟩:=h;unfold nJ at h5 ⊢;rw[h4]at h5 ⊢;exact aaC h5
   omega
 ·rw[aau hN];congr 1;rw[<- fK];unfold Es xr;congr 1
  ·congr 1
   ·refine iM _ λi hi=>?_;rw[e1 i hi];split
    ·rfl
    ·rename_i h;exact absurd (.inl ⟨i,hi,by rw[e1 i hi,if_neg h]⟩) hN
   ·refine iM _ λi hi=>?_;rw[e2 i hi];split
    ·rfl
    ·rename_i h;exact absurd (.inr (.inl ⟨i,hi,by rw[e2 i hi,if_neg h]⟩)) hN
  ·exact iM _ λi hi=>e3 i hi
def oR:List Int->List Bool->Int->Int
 |x::r,b::s,n=>oR r s (if b=true then min n x else n)
 |_,_,n=>n
def H0(ax:List Int)(w i:Nat)(a:Bool):Nat->List Bool->Int->Int
 |_,[],n=>n
 |k,b::r,n=>H0 ax w i a (k+1) r (if a=true/\b=true then min n (ax.getD (i*w+k) 0) else n)
def H2(ax:List Int)(w:Nat)(rb:List Bool):Nat->List Bool->Int->Int
 |_,[],n=>n
 |i,a::r,n=>H2 ax w rb (i+1) r (H0 ax w i a 0 rb n)
def H3(m:ah)(left:List (List Bool))(p:Pr):Int:=H2 p.ax (m.cls.getD p.snd.toNat default).length (left.getD p.snd.toNat default) 0 (left.getD p.fst.toNat default) 1099511627776
def wc:List Bool->Int->Int
 |[],n=>n
 |b::r,n=>wc r (if b=true then n+1 else n)
def oS(c:Int)(row:List Bool):List Ld->Int×Int->Int×Int
 |[],z=>z
 |x::r,z=>oS c row r (if x.cls=c/\row.getD x.opt.toNat false=true then(z.1-1,if z.2<0\/x.wt<z.2 then x.wt else z.2) else z)
def yP(l:List Ld)(c:Int)(row:List Bool):Int:=if 0<(oS c row l (wc row 0,-1)).1\/(oS c row l (wc row 0,-1)).2<0 then 0 else(oS c row l (wc row 0,-1)).2
def Cd(l:List Ld)(left:List (List Bool)):Option Int->List Ld->Int->Int
 |_,[],n=>n
 |q,x::r,n=>Cd l left (some x.cls) r (if q=some x.cls then n else n+yP l x.cls (left.getD x.cls.toNat default))
def aaE(n bX:Int):Int:=if 0<n/\bX=1099511627776 then 1099511627776 else min (n*bX) 1099511627776
def Ev(left:List (List Bool))(c:Ct):Int:=aaE (max (Cd c.aY left none c.aY (-c.most)) 0) c.bX
def H4(left:List (List Bool)):Nat->List (List cE)->Int->Option Int
 |_,[],n=>some n
 |i,c::r,n=>if oR (bV c) (left.getD i default) 1099511627776=1099511627776 then none else H4 left (i+1) r (n+oR (bV c) (left.getD i default) 1099511627776)
def Ew(m:ah)(left:List (List Bool)):List Pr->Int->Option Int
 |[],n=>some n
 |p::r,n=>if H3 m left p=1099511627776 then none else Ew m left r (n+H3 m left p)
def Ex(left:List (List Bool)):List Ct->Int->Option Int
 |[],n=>some n
 |c::r,n=>if Ev left c=1099511627776 then none else Ex left r (n+Ev left c)
def Ey:Option Int->Int
 |none=>1099511627776
 |some n=>min n 1099511627776
def Ez(m:ah)(left:List (List Bool)):Option Int->Option Int
 |none=>none
 |some n=>Ex left m.aC n
def H5(m:ah)(left:List (List Bool)):Option Int->Option Int
 |none=>none
 |some n=>Ew m left m.ae n
def BL(m:ah)(left:List (List Bool)):Int:=Ey (Ez m left (H5 m left (H4 left 0 m.cls 0)))
def we(q:Int×Bool):Int:=if q.2=true then q.1 else 1099511627776
def MS:∀ (l:List Int) (s:List Bool) (b:Int×Bool),(∀ x∈l,bM x)->(b.2=true->b.1<1099511627776) ->
  we (dm (dy l) s b)=oR l s (we b)/\((dm (dy l) s b).2=true->(dm (dy l) s b).1<1099511627776)
 |[],s,b,_,hb=>⟨by cases s<;>rfl,hb⟩
 |x::r,[],b,_,hb=>⟨rfl,hb⟩
 |x::r,is::s,b,h,hb=>by
  have hx:=h x Iw;unfold bM at hx;rw[show dy (x::r)=ez x::dy r from rfl,dm,oR];have key:we (if is=true/\(ez x).2=false/\(b.2=false\/(ez x).1<b.1) then((ez x).1,true) else b)=(if is=true then min (we b) x else we b):=by
   obtain⟨b1,b2⟩:=b;unfold ez we;dsimp only at hb ⊢;cases is<;>cases b2<;>simp at hb ⊢<;>(repeat' split)<;>simp_all<;>omega
  have:=MS r s (if is=true/\(ez x).2=false/\(b.2=false\/(ez x).1<b.1) then((ez x).1,true) else b) (λy hy=>h y (by simp[hy])) (by
   split
   ·rename_i hc;intro _;have:=hc.2.1;unfold ez at this ⊢;simp at this;exact this
   ·exact hb)
  rw[key]at this;exact this
def aaF:∀ (l:List Int) (s t:List Bool) (n:Int),s.length<=l.length->oR l (s++t) n=oR (l.drop s.length) t (oR l s n)
 |l,[],t,n,_=>by cases l<;>rfl
 |[],b::s,t,n,h=>by simp at h
 |x::r,b::s,t,n,h=>by
  rw[List.cons_append,oR,oR,dw,List.drop_succ_cons];exact aaF r s t _ (by simpa using h)
def aaG(ax:List Int)(w i:Nat)(a:Bool):∀ (r:List Bool) (k:Nat) (n:Int),i*w+k+r.length<=ax.length->H0 ax w i a k r n=oR (ax.drop (i*w+k)) (r.map (a && ·)) n
 |[],k,n,_=>by cases(ax.drop (i*w+k))<;>rfl
 |b::r,k,n,h=>by
  have a6:i*w+k<ax.length:=by simp at h;omega
  have hd:ax.drop (i*w+k)=ax.getD (i*w+k) 0::ax.drop (i*w+(k+1)):=by
   rw[List.drop_eq_getElem_cons a6,aB,List.getElem?_eq_getElem a6];rfl
  rw[H0,hd,fW,oR,aaG ax w i a r (k+1) _ (by simp at h;omega)];congr 1;cases a<;>cases b<;>simp
def aaH(ax:List Int)(w:Nat)(rb:List Bool)(hw:rb.length=w):∀ (r:List Bool) (i:Nat) (n:Int),i*w+r.length*w<=ax.length->H2 ax w rb i r n=oR (ax.drop (i*w)) (qC r rb) n
 |[],i,n,_=>by show n=oR _ [] n;cases(ax.drop (i*w))<;>rfl
 |a::r,i,n,h=>by
  have h2:i*w+(r.length+1)*w<=ax.length:=h;rw[fN,wx]at h2;rw[H2,aaG ax w i a rb 0 n Iv,aaH ax w rb hw r (i+1) _ (by rw[fN];omega)];show _=oR _ (rb.map (a && ·)++qC r rb) n;rw[aaF _ _ _ _ (by rw[fX,List.length_drop];omega),List.drop_drop,fX,hw,fN,wx];simp only[iq]
def jy:List (Int×Bool)->Int->Option Int
 |[],n=>some n
 |p::r,n=>if p.2=false then none else jy r (n+p.1)
def H6:∀ (l:List (Int×Bool)) (n:Int),jy l n=if(bJ l (n,false)).2=true then none else some (bJ l (n,false)).1
 |[],n=>rfl
 |p::r,n=>by
  rw[jy];obtain⟨a,b⟩:=p;cases b
  ·show none=if(bJ r (n+a,true)).2=true then none else _;rw[Dz,if_pos rfl]
  ·exact H6 r (n+a)
def aaI{m:ah}(hm:VM m)(left:List (List Bool)):∀ (k i:Nat) (n:Int),i+k=m.cls.length->H4 left i (m.cls.drop i) n=jy ((lH i k).map λj=>dm ((S0 m).getD j default) (left.getD j default) (0,false)) n
 |0,i,n,h=>by rw[jr Iv];rfl
 |k+1,i,n,h=>by
  have hi:i<m.cls.length:=Iv;have hs:(S0 m).getD i default=dy (bV (m.cls.getD i default)):=by rw[S0,iX _ _ _ hi]
  have h2:=MS (bV (m.cls.getD i default)) (left.getD i default) (0,false) (λx hx=>by
   obtain⟨o,ho,rfl⟩:=List.mem_map.1 hx;exact Dt (hm.ry _ (aG hi) o ho)) Iw
  rw[show we (0,false)=1099511627776 from rfl]at h2;rw[j3 m.cls i default hi,H4,uU,fW,jy,aaI hm left k (i+1) _ Iv,hs,<- h2.1];generalize dm (dy (bV (m.cls.getD i default))) (left.getD i default) (0,false)=q at *;obtain⟨a,b⟩:=q;unfold we at *;cases b<;>simp at h2 ⊢;intro e;omega
def aaJ{m:ah}(hm:VM m){left:List (List Bool)}(hf:df m left):∀ (k i:Nat) (n:Int),i+k=m.ae.length->Ew m left (m.ae.drop i) n=jy ((lH i k).map λj=>dm ((T0 m).getD j default) (ik m left j) (0,false)) n
 |0,i,n,h=>by rw[jr Iv];rfl
 |k+1,i,n,h=>by
  have hi:i<m.ae.length:=Iv;have hs:(T0 m).getD i default=dy (m.ae.getD i default).ax:=by rw[T0,iX _ _ _ hi]
  have dN:=jQ hm.pr _ (aG (d:=default) hi);obtain⟨_,p1,p2,p3,p4⟩:=qz dN;have f1:=hf.2 (m.ae.getD i default).fst.toNat (by rw[hf.1];omega);have f2:=hf.2 (m.ae.getD i default).snd.toNat (by rw[hf.1];omega);have h2:=MS (m.ae.getD i default).ax (ik m left i) (0,false) (GK dN) Iw;rw[show we (0,false)=1099511627776 from rfl]at h2;have h3:H3 m left (m.ae.getD i default)=oR (m.ae.getD i default).ax (ik m left i) 1099511627776:=by
   unfold H3 ik;rw[aaH _ _ _ f2 _ 0 _ (by rw[EX,gn,f1];have:=p4;exact_mod_cast Int.le_of_eq this.symm),EX,List.drop_zero]
  rw[j3 m.ae i default hi,Ew,uU,fW,jy,aaJ hm hf k (i+1) _ Iv,hs,h3,<- h2.1];generalize dm (dy (m.ae.getD i default).ax) (ik m left i) (0,false)=q at *;obtain⟨a,b⟩:=q;unfold we at *;cases b<;>simp at h2 ⊢;intro e;omega
end T

