import Derived.Test.YtfoopmojjjpapaaGreatX23
set_option linter.all false
set_option maxHeartbeats 0
set_option maxRecDepth 20000
open List renaming getD_eq_getElem?_getD→az,getElem?_set→bU,getElem?_set_ne→gA,getD_cons_zero→ik,getD_cons_succ→e7,range→bu,length_cons→dq,map_cons→ei,length_map→fK,range'→mB,drop_eq_nil_of_le→jA,range'_succ→wu
open Option renaming getD_some→lV
open Int renaming mul_le_mul_of_nonneg_right→GJ,one_mul→Kk,toNat_natCast→c7,toNat_of_nonneg→wF,le_refl→mY,lt_or_le→Kj,eq_ofNat_of_zero_le→Ce,zero_add→Ax
open Bool renaming and_eq_true→bb
open Nat renaming add_zero→jq,mul_comm→tK,div_eq_of_lt→PY,mul_add_mod→PZ,mod_eq_of_lt→GL,zero_add→gJ,add_mul→gn,one_mul→wx,zero_mul→GN
open Go Go.Am
namespace T
def TO(r:List Nm)(i q:Nat)(a:Int)(hi:i<r.length):(jQ r i a).getD q default=if i=q then((r.getD q default).1+a,(r.getD q default).2) else r.getD q default:=by
 unfold jQ;by_cases h:i=q
 ·subst h;rw[if_pos rfl];simp only[az,bU,hi,if_true,lV]
 ·rw[if_neg h];simp only[az,gA h]
def TP(r:List Nm){i q:Nat}(a:Int)(h:i≠q):(jQ r i a).getD q default=r.getD q default:=by
 unfold jQ;simp only[az,gA h]
def H4{f:Nat->Nat}{a:Int}{t:List Nm}{q:Nat}:∀ k:Nat,(∀ j,j<k->f j≠q)->(gQ f a k t).getD q default=t.getD q default
 |0,_=>rfl
 |k+1,h=>by rw[gQ,TP _ _ (h k GK),H4 k λj hj=>h j GK]
def Ms{f:Nat->Nat}{a:Int}{t:List Nm}{q j0:Nat}(h0:f j0=q)(hq:q<t.length):∀ k:Nat,j0<k->(∀ j,j<k->j≠j0->f j≠q)->(gQ f a k t).getD q default=((t.getD q default).1-a,(t.getD q default).2)
 |0,hk,_=>GK
 |k+1,hk,h=>by
  rw[gQ];by_cases e:j0=k
  ·subst e;rw[h0,TO _ _ _ _ (by rw[Bj];exact hq),if_pos rfl,H4 j0 λj hj=>h j GK GK];congr 1
  ·rw[TP _ _ (h k GK GK),Ms h0 hq k GK λj hj=>h j GK]
def H5{a b n j k:Int}(hj:0<=j/\j<n)(hk:0<=k/\k<n)(h:a*n+j=b*n+k):a=b/\j=k:=by
 rcases Int.lt_trichotomy a b with hl|hl|hl
 ·have:(a+1)*n<=b*n:=GJ GK GK;rw[Int.add_mul,Kk]at this;omega
 ·subst hl;omega
 ·have:(b+1)*n<=a*n:=GJ GK GK;rw[Int.add_mul,Kk]at this;omega
def l9(plan:List Int)(g:Lg)(i:Nat):Nm:=(g.1.getD i default).getD (plan.getD i 0).toNat default
def w7(m:ah)(plan:List Int)(p:Pr):Nat:=(plan.getD p.fst.toNat 0*(m.cls.getD p.snd.toNat default).length+plan.getD p.snd.toNat 0).toNat
def ma(m:ah)(plan:List Int)(g:Lg)(i:Nat):Nm:=(g.2.getD i default).getD (w7 m plan (m.ae.getD i default)) default
def TQ{α:Type}[Inhabited α](l:List α)(i j:Nat)(x:α)(hi:i<l.length):(l.set i x).getD j default=if i=j then x else l.getD j default:=by
 by_cases h:i=j
 ·subst h;rw[if_pos rfl];simp only[az,bU,hi,if_true,lV]
 ·rw[if_neg h];simp only[az,gA h]
structure H6(m:ah)(x:Mv):Prop where
 p:0<=x.pair/\x.pair<m.ae.length
 s:x.side=0\/x.side=1
 c:0<=eV m x/\eV m x<m.cls.length
 o:0<=x.opt/\x.opt<(m.cls.getD (eV m x).toNat default).length
def ag0{m:ah}{x:Mv}(h:iT m x=true):H6 m x:=by
 unfold iT at h;rw[bb,decide_eq_true_eq,jN]at h;exact⟨GK,GK,GK,GK⟩
def rI{m:ah}{plan:List Int}(hp:FP m plan){j:Nat}(hj:j<m.cls.length):0<=plan.getD j 0/\plan.getD j 0<(m.cls.getD j default).length:=by
 have h:=jN.1 (hp.get j (by rw[hp.len];exact hj));rw[c7]at h;exact h.2.2
abbrev ES(m:ah)(plan:List Int)(x:Mv):Prop:=plan.getD (eV m x).toNat 0=x.opt
def ag1{m:ah}{plan:List Int}(hp:FP m plan){B:Int}{g:Lg}(h:LG m B g){x:Mv}(hx:H6 m x)(i:Nat):
  l9 plan (j5 m x g) i=if i=(eV m x).toNat then(if ES m plan x then((l9 plan g i).1+x.amt,(l9 plan g i).2) else l9 plan g i) else l9 plan g i:=by
 obtain⟨hxp,dz,vw,w6⟩:=hx;have h1:=h.s;have h2:=h.sl (eV m x).toNat GK;have h3:=rI hp (j:=(eV m x).toNat) GK;unfold l9 j5 ES;dsimp only;rw[TQ _ _ _ _ GK];by_cases e:i=(eV m x).toNat
 ·subst e;rw[if_pos rfl,if_pos rfl,TO _ _ _ _ GK];by_cases e2:plan.getD (eV m x).toNat 0=x.opt
  ·rw[if_pos e2,if_pos (by rw[e2])]
  ·rw[if_neg e2,if_neg GK]
 ·rw[if_neg (Ne.symm e),if_neg e]
def ag3{m:ah}(hm:VM m){plan:List Int}(hp:FP m plan){B:Int}{g:Lg}(h:LG m B g){x:Mv}(hx:H6 m x)(i:Nat):
  ma m plan (j5 m x g) i=if i=x.pair.toNat then(if ES m plan x then((ma m plan g i).1-x.amt,(ma m plan g i).2) else ma m plan g i) else ma m plan g i:=by
 obtain⟨hxp,dz,vw,w6⟩:=hx;have h1:=h.t;have h2:=h.tl x.pair.toNat GK;unfold ma j5;dsimp only;rw[TQ _ _ _ _ GK];by_cases e:i=x.pair.toNat;rotate_left
 ·rw[if_neg (Ne.symm e),if_neg e]
 subst e;rw[if_pos rfl,if_pos rfl];have dO:=j6 hm.pr _ (aF (l:=m.ae) (i:=x.pair.toNat) (d:=default) GK);unfold ES;unfold eV at *;unfold oU w7;generalize m.ae.getD x.pair.toNat default=p at *;obtain⟨q1,q2,q3,q4,q5⟩:=qA dO;have ha:=rI hp (j:=p.fst.toNat) GK;have hb:=rI hp (j:=p.snd.toNat) GK;have vH:=hm.opt _ (aF (l:=m.cls) (i:=p.fst.toNat) (d:=default) GK);have re:=hm.opt _ (aF (l:=m.cls) (i:=p.snd.toNat) (d:=default) GK);generalize g.2.getD x.pair.toNat default=t at *;generalize Mt:plan.getD p.fst.toNat 0=a at *;generalize kH:plan.getD p.snd.toNat 0=b at *;generalize ET:(m.cls.getD p.fst.toNat default).length=na at *;generalize ag4:(m.cls.getD p.snd.toNat default).length=nb at *;have jk:=zL (x:=a) (y:=b) (a:=na) (b:=nb) ha hb GK GK;rcases dz with hs|hs
 ·rw[if_pos hs]at vw w6;rw[if_pos hs,if_pos hs,Mt];rw[ET]at w6;dsimp only;have H7:=zL (x:=x.opt) (y:=b) (a:=na) (b:=nb) w6 hb GK GK;by_cases e2:a=x.opt
  ·rw[if_pos e2];refine Ms (j0:=b.toNat) ?_ GK nb GK λj hj cy he=>?_
   ·rw[e2,wF hb.1]
   ·have:=H5 (a:=x.opt) (b:=a) (n:=nb) (j:=j) (k:=b) GK GK GK;omega
  ·rw[if_neg e2];refine H4 nb λj hj he=>?_;have:=H5 (a:=x.opt) (b:=a) (n:=nb) (j:=j) (k:=b) GK GK GK;omega
 ·rw[if_neg GK]at vw w6;have yo:¬ x.side=0:=GK;rw[if_neg yo,if_neg yo,kH];rw[ag4]at w6;dsimp only;by_cases e2:b=x.opt
  ·rw[if_pos e2];refine Ms (j0:=a.toNat) ?_ GK na GK λj hj cy he=>?_
   ·rw[e2,wF ha.1]
   ·have zu:=zL (x:=(j:Int)) (y:=x.opt) (a:=na) (b:=nb) GK w6 GK GK;have:=H5 (a:=(j:Int)) (b:=a) (n:=nb) (j:=x.opt) (k:=b) GK GK GK;omega
  ·rw[if_neg e2];refine H4 na λj hj he=>?_;have zu:=zL (x:=(j:Int)) (y:=x.opt) (a:=na) (b:=nb) GK w6 GK GK;have:=H5 (a:=(j:Int)) (b:=a) (n:=nb) (j:=x.opt) (k:=b) GK GK GK;omega
def yp(m:ah)(plan:List Int)(g:Lg):Int:=bN (λi=>(l9 plan g i).1) m.cls.length+bN (λi=>(ma m plan g i).1) m.ae.length
def ag5{m:ah}(hm:VM m){plan:List Int}(hp:FP m plan){B:Int}{g:Lg}(h:LG m B g){x:Mv}(hx:H6 m x):
  yp m plan (j5 m x g)=yp m plan g/\(∀ i,(l9 plan (j5 m x g) i).2=(l9 plan g i).2)/\∀ i,(ma m plan (j5 m x g) i).2=(ma m plan g i).2:=by
 have hS:=ag1 hp h hx;have hT:=ag3 hm hp h hx;refine⟨?_,λi=>?_,λi=>?_⟩
 ·unfold yp;by_cases hh:ES m plan x
  ·rw[jf (g:=λi=>if i=(eV m x).toNat then(l9 plan g i).1+x.amt else(l9 plan g i).1) m.cls.length λi _=>by
    rw[hS,if_pos hh];split<;>rfl,jf (g:=λi=>if i=x.pair.toNat then(ma m plan g i).1+-x.amt else(ma m plan g i).1) m.ae.length λi _=>by
    rw[hT,if_pos hh];split<;>rfl,zJ,zJ,if_pos (by have:=hx.c;omega),if_pos (by have:=hx.p;omega)]
   omega
  ·rw[jf (g:=λi=>(l9 plan g i).1) m.cls.length λi _=>by rw[hS,if_neg hh];simp,jf (g:=λi=>(ma m plan g i).1) m.ae.length λi _=>by rw[hT,if_neg hh];simp]
 ·rw[hS];split<;>(try split)<;>rfl
 ·rw[hT];split<;>(try split)<;>rfl
def TR{m:ah}(hm:VM m){plan:List Int}(hp:FP m plan):∀ (l:List Mv) (B:Int) (g:Lg),0<=B->LG m B g->(∀ x∈l,iT m x=true) ->
  yp m plan (iV m l g)=yp m plan g/\(∀ i,(l9 plan (iV m l g) i).2=(l9 plan g i).2)/\∀ i,(ma m plan (iV m l g) i).2=(ma m plan g i).2
 |[],B,g,_,_,_=>⟨rfl,λ_=>rfl,λ_=>rfl⟩
 |x::r,B,g,hB,h,hx=>by
  have h1:=ag5 hm hp h (ag0 (hx x GM));have h2:=TR hm hp r _ (j5 m x g) GK (TS hm hB h (hx x GM)) (λy hy=>hx y (by simp[hy]));exact⟨h2.1.trans h1.1,λi=>(h2.2.1 i).trans (h1.2.1 i),λi=>(h2.2.2 i).trans (h1.2.2 i)⟩
def H8:∀ (l:List Nm) (s:List Bool) (b:Int×Bool),b.2=true->(dC l s b).2=true/\(dC l s b).1<=b.1
 |[],s,b,h=>by cases s<;>exact⟨h,mY _⟩
 |p::r,[],b,h=>⟨h,mY _⟩
 |p::r,is::s,b,h=>by
  rw[dC];split
  ·rename_i hc;have h2:=H8 r s (p.1,true) rfl;have h3:p.1<b.1:=by
    rcases hc.2.2 with h4|h4
    ·rw[h]at h4;cases h4
    ·exact h4
   exact⟨h2.1,by have:=h2.2;dsimp only at this;omega⟩
  ·exact H8 r s b h
def Mu:∀ (l:List Nm) (s:List Bool) (b:Int×Bool) (i:Nat),i<l.length->s.getD i false=true->(l.getD i default).2=false->(dC l s b).2=true/\(dC l s b).1<=(l.getD i default).1
 |[],s,b,i,h,_,_=>by simp at h
 |p::r,[],b,i,_,h,_=>by simp at h
 |p::r,is::s,b,0,_,h1,h2=>by
  rw[ik]at h1 h2 ⊢;rw[dC];split
  ·exact H8 r s (p.1,true) rfl
  ·rename_i hc;have hb:b.2=true/\b.1<=p.1:=by
    cases qw:b.2 with
    |false=>exact absurd ⟨h1,h2,.inl qw⟩ hc
    |true=>exact⟨rfl,by rcases Kj p.1 b.1 with h|h;exact absurd ⟨h1,h2,.inr h⟩ hc;exact h⟩
   have:=H8 r s b hb.1;exact⟨this.1,GK⟩
 |p::r,is::s,b,i+1,h,h1,h2=>by
  rw[e7]at h1 h2 ⊢;rw[dC];exact Mu r s _ i (by simpa using h) h1 h2
def TT:∀ (l:List Nm) (s:List Bool) (b:Int×Bool),(∀ i,s.getD i false=false)->dC l s b=b
 |[],s,b,_=>by cases s<;>rfl
 |p::r,[],b,_=>rfl
 |p::r,is::s,b,h=>by
  have h0:=h 0;rw[ik]at h0;rw[dC,if_neg (by rw[h0];simp)];exact TT r s b λi=>by have:=h (i+1);rwa [e7]at this
def Mw:∀ (l:List Nm) (s:List Bool) (b:Int×Bool) (i:Nat),i<l.length->(∀ j,s.getD j false=decide (j=i))->b.2=false ->
  dC l s b=if(l.getD i default).2=false then((l.getD i default).1,true) else b
 |[],s,b,i,h,_,_=>by simp at h
 |p::r,[],b,i,_,h,_=>by have:=h i;simp at this
 |p::r,is::s,b,0,_,h,hb=>by
  have h0:=h 0;rw[ik,decide_eq_true rfl]at h0;rw[ik,dC,TT r s _ λi=>by have:=h (i+1);rw[e7]at this;rw[this];simp];by_cases hp:p.2=false
  ·rw[if_pos ⟨h0,hp,.inl hb⟩,if_pos hp]
  ·rw[if_neg (λhc=>hp hc.2.1),if_neg hp]
 |p::r,is::s,b,i+1,hi,h,hb=>by
  have h0:=h 0;rw[ik,decide_eq_false GK]at h0;rw[e7,dC,if_neg (by rw[h0];simp)];exact Mw r s b i (by simpa using hi) (λj=>by have:=h (j+1);rw[e7]at this;rw[this];simp) hb
def H9(f:Nat->Int×Bool)(z:Int×Bool):∀ n,(bQ ((bu n).map f) z).1=z.1+bN (λi=>(f i).1) n
 |0=>by simp[bQ,bN]
 |n+1=>by rw[zM,C4,bN];dsimp only;rw[H9 f z n];omega
def Bk(f:Nat->Int×Bool)(z:Int×Bool):∀ n,(bQ ((bu n).map f) z).2=true↔(z.2=true\/∃ i,i<n/\(f i).2=false)
 |0=>by simp[bQ]
 |n+1=>by
  rw[zM,C4];dsimp only;rw[Bool.or_eq_true,Bk f z n,Bool.not_eq_true'];constructor
  ·rintro((h|⟨i,hi,h⟩)|h)
   ·exact .inl h
   ·exact .inr ⟨i,GK,h⟩
   ·exact .inr ⟨n,GK,h⟩
  ·rintro(h|⟨i,hi,h⟩)
   ·exact .inl (.inl h)
   ·by_cases e:i=n
    ·subst e;exact .inr h
    ·exact .inl (.inr ⟨i,GK,h⟩)
def w8(left:List (List Bool))(g:Lg)(i:Nat):Int×Bool:=dC (g.1.getD i default) (left.getD i default) (0,false)
def w9(m:ah)(left:List (List Bool))(g:Lg)(i:Nat):Int×Bool:=dC (g.2.getD i default) (iI m left i) (0,false)
def sV(m:ah)(left:List (List Bool))(i:Nat):Int×Bool:=(jg left (m.aD.getD i default),!(decide ((m.aD.getD i default).cf=1099511627776)&&decide (0<jg left (m.aD.getD i default))))
def EU(m:ah)(left:List (List Bool))(g:Lg):Int:=bN (λi=>(w8 left g i).1) m.cls.length+bN (λi=>(w9 m left g i).1) m.ae.length+bN (λi=>(sV m left i).1) m.aD.length
def Mx(m:ah)(left:List (List Bool))(g:Lg):Prop:=(∃ i,i<m.cls.length/\(w8 left g i).2=false)\/(∃ i,i<m.ae.length/\(w9 m left g i).2=false)\/∃ i,i<m.aD.length/\(sV m left i).2=false
def ag6{m:ah}{left:List (List Bool)}{g:Lg}(h:Mx m left g):l8 m left g=1099511627776:=by
 unfold l8;rw[if_pos];show(bQ ((bu m.aD.length).map (sV m left)) (bQ ((bu m.ae.length).map (w9 m left g)) (bQ ((bu m.cls.length).map (w8 left g)) (0,false)))).2=true;rw[Bk,Bk,Bk];rcases h with h|h|h
 ·exact .inl (.inl (.inr h))
 ·exact .inl (.inr h)
 ·exact .inr h
def TU{m:ah}{left:List (List Bool)}{g:Lg}(h:¬ Mx m left g):l8 m left g=min (EU m left g) 1099511627776:=by
 have h1:¬ (bQ ((bu m.aD.length).map (sV m left)) (bQ ((bu m.ae.length).map (w9 m left g)) (bQ ((bu m.cls.length).map (w8 left g)) (0,false)))).2=true:=by
  rw[Bk,Bk,Bk];rintro(((h2|h2)|h2)|h2)
  ·cases h2
  ·exact h (.inl h2)
  ·exact h (.inr (.inl h2))
  ·exact h (.inr (.inr h2))
 have h2:(bQ ((bu m.aD.length).map (sV m left)) (bQ ((bu m.ae.length).map (w9 m left g)) (bQ ((bu m.cls.length).map (w8 left g)) (0,false)))).1=EU m left g:=by
  rw[H9,H9,H9];unfold EU;dsimp only;omega
 show(if(bQ ((bu m.aD.length).map (sV m left)) (bQ ((bu m.ae.length).map (w9 m left g)) (bQ ((bu m.cls.length).map (w8 left g)) (0,false)))).2=true then(1099511627776:Int) else min (bQ ((bu m.aD.length).map (sV m left)) (bQ ((bu m.ae.length).map (w9 m left g)) (bQ ((bu m.cls.length).map (w8 left g)) (0,false)))).1 1099511627776)=_;rw[if_neg h1,h2]
def ag7(m:ah)(left:List (List Bool))(g:Lg):l8 m left g<=1099511627776:=by
 unfold l8;split<;>omega
def HY:∀ (l:List Ld) (c o w:Int),(∀ y∈l,¬ (y.cls=c/\y.opt=o))->gj l c o w=w
 |[],_,_,_,_=>rfl
 |x::r,c,o,w,h=>by rw[gj,if_neg (h x GM),HY r c o w λy hy=>h y (by simp[hy])]
def TV{m:ah}:∀ {l:List Ld} {q:Option Ld} (c o:Int),eO m q l=true->gj l c o 0=vI l c o
 |[],_,_,_,_=>rfl
 |x::r,q,c,o,h=>by
  have hr:eO m (some x) r=true:=by
   cases q<;>rw[eO]at h<;>simp only[bb]at h<;>exact h.2
  rw[gj,vI];by_cases e:x.cls=c/\x.opt=o
  ·rw[if_pos e,if_pos e];exact HY r c o _ λy hy he=>by have:=zI hr y hy;omega
  ·rw[if_neg e,if_neg e];exact TV c o hr
def TW(l:List Ld):∀ (plan:List Int) (i:Nat),uy l i plan=bN (λj=>vI l (i+j:Nat) (plan.getD j 0)) plan.length
 |[],i=>rfl
 |o::r,i=>by
  rw[uy,TW l r (i+1),dq,zH];simp only[ik,e7,jq];rw[jf (g:=λj=>vI l (i+(j+1):Nat) (r.getD j 0)) r.length λj _=>by rw[show i+1+j=i+(j+1) by omega]]
def CY{l:List Ld}(h:∀ x∈l,1<=x.wt/\x.wt<=1000)(c:Int):∀ (row:List Bool) (o:Nat) (b:Int),0<=b->0<=dX l c o row b/\dX l c o row b<=b
 |[],_,b,hb=>⟨hb,mY _⟩
 |is::r,o,b,hb=>by
  rw[dX];have hw:=zG h c o 0 GK;split
  ·rename_i hc;have:=CY h c r (o+1) (gj l c o 0) hw.1;omega
  ·exact CY h c r (o+1) b hb
def HZ{l:List Ld}(h:∀ x∈l,1<=x.wt/\x.wt<=1000)(c:Int):∀ (row:List Bool) (o:Nat) (b:Int) (i:Nat),row.getD i false=true->dX l c o row b<=gj l c (o+i:Nat) 0
 |[],_,b,i,hi=>by simp at hi
 |is::r,o,b,0,hi=>by
  rw[ik]at hi;have hw:=zG h c o 0 GK;rw[dX];simp only[jq];split
  ·exact(CY h c r (o+1) _ hw.1).2
  ·rename_i hc;have hb:0<=b/\b<=gj l c o 0:=by
    constructor
    ·rcases Kj b 0 with h2|h2
     ·exact absurd ⟨hi,.inl h2⟩ hc
     ·exact h2
    ·rcases Kj (gj l c o 0) b with h2|h2
     ·exact absurd ⟨hi,.inr h2⟩ hc
     ·exact h2
   have:=CY h c r (o+1) b hb.1;omega
 |is::r,o,b,i+1,hi=>by
  rw[e7]at hi;rw[dX,show o+(i+1)=o+1+i by omega];exact HZ h c r (o+1) _ i hi
def Mo(l:List Ld)(c:Int):∀ (row:List Bool) (o:Nat) (b:Int),(∀ i,row.getD i false=false)->dX l c o row b=b
 |[],_,_,_=>rfl
 |is::r,o,b,h=>by
  have h0:=h 0;rw[ik]at h0;rw[dX,if_neg (by rw[h0];simp)];exact Mo l c r (o+1) b λi=>by have:=h (i+1);rwa [e7]at this
def TX(l:List Ld)(c:Int):∀ (row:List Bool) (o:Nat) (i:Nat),(∀ j,row.getD j false=decide (j=i))->dX l c o row (-1)=gj l c (o+i:Nat) 0
 |[],_,i,h=>by have:=h i;simp at this
 |is::r,o,0,h=>by
  have h0:=h 0;rw[ik,decide_eq_true rfl]at h0;rw[dX,if_pos ⟨h0,.inl GS⟩,jq];exact Mo l c r (o+1) _ λj=>by have:=h (j+1);rw[e7]at this;rw[this];simp
 |is::r,o,i+1,h=>by
  have h0:=h 0;rw[ik,decide_eq_false GK]at h0;rw[dX,if_neg (by rw[h0];simp),show o+(i+1)=o+1+i by omega];exact TX l c r (o+1) i λj=>by have:=h (j+1);rw[e7]at this;rw[this];simp
def H'{f:Nat->Int}:∀ (n:Nat),(∀ i<n,0<=f i)->0<=bN f n/\∀ i<n,f i<=bN f n
 |0,_=>⟨mY _,λi h=>GK⟩
 |n+1,h=>by
  have h1:=H' n λi hi=>h i GK;have h2:=h n GK;rw[bN];refine⟨GK,λi hi=>?_⟩;by_cases e:i=n
  ·subst e;omega
  ·have:=h1.2 i GK;omega
def EV{f g:Nat->Int}:∀ (n:Nat),(∀ i<n,f i<=g i)->bN f n<=bN g n
 |0,_=>mY _
 |n+1,h=>by
  have:=EV n λi hi=>h i GK;have:=h n GK;rw[bN,bN];omega
def ag8{m:ah}{plan:List Int}(hm:VM m)(hp:FP m plan){i:Nat}(hi:i<m.cls.length):bT (vJ m plan i):=by
 have h:=rI hp hi;have hl:=aF (l:=m.cls) (i:=i) (d:=default) hi;exact EW (hm.sW _ hl _ (aF (l:=m.cls.getD i default) (i:=(plan.getD i 0).toNat) (d:=default) GK))
def TY{m:ah}{plan:List Int}(hp:FP m plan){i:Nat}(hi:i<m.cls.length):l9 plan (S0 m,T0 m) i=eP (vJ m plan i):=by
 have h:=rI hp hi;unfold l9 S0;dsimp only;rw[iS _ _ _ hi];unfold dJ b9;rw[List.map_map,iS _ _ _ GK];rfl
def TZ{m:ah}{plan:List Int}(hm:VM m)(hp:FP m plan){p:Pr}(dO:hJ m p=true):w7 m plan p<p.ay.length:=by
 obtain⟨q1,q2,q3,q4,q5⟩:=qA dO;have ha:=rI hp (j:=p.fst.toNat) GK;have hb:=rI hp (j:=p.snd.toNat) GK;have vH:=hm.opt _ (aF (l:=m.cls) (i:=p.fst.toNat) (d:=default) GK);have re:=hm.opt _ (aF (l:=m.cls) (i:=p.snd.toNat) (d:=default) GK);have jk:=zL ha hb GK GK;unfold w7;omega
def T1{m:ah}{plan:List Int}(hm:VM m)(hp:FP m plan){i:Nat}(hi:i<m.ae.length):ma m plan (S0 m,T0 m) i=eP (sX m plan (m.ae.getD i default)):=by
 have dO:=j6 hm.pr _ (aF (l:=m.ae) (i:=i) (d:=default) hi);have jk:=TZ hm hp dO;unfold ma T0;dsimp only;rw[iS _ _ _ hi];unfold dJ;rw[iS _ _ _ jk];unfold sX yq w7;rfl
def ag9{m:ah}{left:List (List Bool)}(hm:VM m)(hf:dh m left){i:Nat}(hi:i<m.ae.length){x y:Int}(hx:0<=x/\x<(m.cls.getD (m.ae.getD i default).fst.toNat default).length)(hy:0<=y/\y<(m.cls.getD (m.ae.getD i default).snd.toNat default).length):
  (iI m left i).getD (x*(m.cls.getD (m.ae.getD i default).snd.toNat default).length+y).toNat false=((left.getD (m.ae.getD i default).fst.toNat default).getD x.toNat false&&(left.getD (m.ae.getD i default).snd.toNat default).getD y.toNat false):=by
 have dO:=j6 hm.pr _ (aF (l:=m.ae) (i:=i) (d:=default) hi);unfold iI;generalize m.ae.getD i default=p at *;obtain⟨q1,q2,q3,q4,q5⟩:=qA dO;have vH:=hm.opt _ (aF (l:=m.cls) (i:=p.fst.toNat) (d:=default) GK);have re:=hm.opt _ (aF (l:=m.cls) (i:=p.snd.toNat) (d:=default) GK);have jk:=zL hx hy GK GK;have f1:=hf.2 p.fst.toNat (by have:=hf.1;omega);have f2:=hf.2 p.snd.toNat (by have:=hf.1;omega);rw[<- f1]at hx jk;rw[<- f2]at hy jk ⊢;generalize left.getD p.fst.toNat default=a at *;generalize left.getD p.snd.toNat default=b at *;obtain⟨x,rfl⟩:=Ce hx.1;obtain⟨y,rfl⟩:=Ce hy.1;have e:((x:Int)*b.length+y).toNat=x*b.length+y:=by
  rw[show((x:Int)*b.length+y)=((x*b.length+y:Nat):Int) by simp,c7]
 have e2:x*b.length+y<a.length*b.length:=by
  have:=jk.2.2;rw[show((x:Int)*b.length+y)=((x*b.length+y:Nat):Int) by simp,show(a.length:Int)*b.length=((a.length*b.length:Nat):Int) by simp]at this;omega
 have HE:y<b.length:=GK;rw[e,Ia _ _ _ e2,c7,c7,tK x,Nat.mul_add_div GK,PY HE,PZ,GL HE,jq]
def T2{m:ah}{plan:List Int}(hp:FP m plan){c:Ct}(hc:jv m c=true):zN plan c.bh 0=bN (λj=>gj c.bh (j:Nat) (plan.getD j 0) 0) m.cls.length:=by
 obtain⟨_,_,_,q4⟩:=ux hc;rw[T3 hp.len 0 q4,TW,Ax,hp.len];exact jf _ λj _=>by rw[gJ,TV _ _ q4]
def EX(m:ah)(left:List (List Bool))(plan:List Int):Prop:=∀ i,i<m.cls.length->(left.getD i default).getD (plan.getD i 0).toNat false=true
def EI(m:ah)(left:List (List Bool))(plan:List Int):Prop:=∀ i,i<m.cls.length->∀ j,(left.getD i default).getD j false=decide (j=(plan.getD i 0).toNat)
def least_le{m:ah}{plan:List Int}{left:List (List Bool)}(hm:VM m)(hp:FP m plan)(hf:dh m left)(eJ:EX m left plan){c:Ct}(hc:jv m c=true):jg left c<=oV plan c:=by
 obtain⟨_,_,q3,q4⟩:=ux hc;have hw:∀ x∈c.bh,1<=x.wt/\x.wt<=1000:=λx hx=>(w5 q4 x hx).2;refine aha (vK q3).1 ?_;rw[C3,T2 hp hc,Ax,hf.1];refine EV _ λj hj=>?_;have hg:=rI hp hj;have h1:=HZ hw (j:Nat) (left.getD j []) 0 (-1) (plan.getD j 0).toNat (eJ j hj);have h2:=zG hw (j:Nat) (plan.getD j 0) 0 GK;rw[gJ,wF hg.1]at h1;unfold mP;rw[gJ];omega
def ahb{m:ah}{plan:List Int}{left:List (List Bool)}(hm:VM m)(hp:FP m plan)(hf:dh m left)(eJ:EI m left plan){c:Ct}(hc:jv m c=true):jg left c=oV plan c:=by
 obtain⟨_,_,q3,q4⟩:=ux hc;have hw:∀ x∈c.bh,1<=x.wt/\x.wt<=1000:=λx hx=>(w5 q4 x hx).2;unfold jg oV;congr 1;rw[C3,T2 hp hc,Ax,hf.1];refine jf _ λj hj=>?_;have hg:=rI hp hj;have h1:=TX c.bh (j:Nat) (left.getD j []) 0 (plan.getD j 0).toNat (eJ j hj);have h2:=zG hw (j:Nat) (plan.getD j 0) 0 GK;rw[gJ,wF hg.1]at h1;unfold mP;rw[gJ,h1];omega
def ahc{m:ah}{plan:List Int}{c:Ct}(hc:jv m c=true):bT (oV plan c):=My (vK (ux hc).2.2.1)
def T4{most s:Int}(h:0<lK most 1099511627776 s):lK most 1099511627776 s=1099511627776:=by
 unfold lK at *;split at h
 ·omega
 ·rename_i h2;rw[if_neg h2];omega
def ahd{m:ah}{plan:List Int}{p:Pr}(h:hJ m p=true):bT (sX m plan p):=Mz h _ _
structure ahe(m:ah)(plan:List Int)(left:List (List Bool))(g:Lg):Prop where
 kK:wW (zF m plan) 0=min (bN (vJ m plan) m.cls.length+bN (λi=>sX m plan (m.ae.getD i default)) m.ae.length+bN (λi=>oV plan (m.aD.getD i default)) m.aD.length) 1099511627776
 ps:yp m plan g=bN (vJ m plan) m.cls.length+bN (λi=>sX m plan (m.ae.getD i default)) m.ae.length
 sf:∀ i,i<m.cls.length->(l9 plan g i).2=decide (1099511627776<=vJ m plan i)
 tf:∀ i,i<m.ae.length->(ma m plan g i).2=decide (1099511627776<=sX m plan (m.ae.getD i default))
 sl:∀ i,i<m.cls.length->(plan.getD i 0).toNat<(g.1.getD i default).length
 tl:∀ i,i<m.ae.length->w7 m plan (m.ae.getD i default)<(g.2.getD i default).length
 a:0<=bN (vJ m plan) m.cls.length/\∀ i<m.cls.length,vJ m plan i<=bN (vJ m plan) m.cls.length
 b:0<=bN (λi=>sX m plan (m.ae.getD i default)) m.ae.length/\∀ i<m.ae.length,sX m plan (m.ae.getD i default)<=bN (λi=>sX m plan (m.ae.getD i default)) m.ae.length
 c:0<=bN (λi=>oV plan (m.aD.getD i default)) m.aD.length/\∀ i<m.aD.length,oV plan (m.aD.getD i default)<=bN (λi=>oV plan (m.aD.getD i default)) m.aD.length
def parts{m:ah}{plan:List Int}(hm:VM m)(hp:FP m plan)(left:List (List Bool))(l:List Mv)(hl:∀ x∈l,iT m x=true):ahe m plan left (iV m l (S0 m,T0 m)):=by
 have gk:=TR hm hp l _ _ GS (T5 hm) hl;have lk:=Ib hm l hl;refine⟨ahf hm hp,?_,λi hi=>?_,λi hi=>?_,λi hi=>?_,λi hi=>?_,H' _ λi hi=>(ag8 hm hp hi).1,H' _ λi hi=>(ahd (j6 hm.pr _ (aF hi))).1,H' _ λi hi=>(ahc (hm.ct _ (aF hi))).1⟩
 ·rw[gk.1];unfold yp;rw[jf m.cls.length λi hi=>by rw[TY hp hi],jf m.ae.length λi hi=>by rw[T1 hm hp hi]];rfl
 ·rw[gk.2.1,TY hp hi];rfl
 ·rw[gk.2.2,T1 hm hp hi];rfl
 ·have:=rI hp hi;rw[lk.sl i hi];omega
 ·rw[lk.tl i hi];exact TZ hm hp (j6 hm.pr _ (aF hi))
def ahg{m:ah}{plan:List Int}{left:List (List Bool)}(hm:VM m)(hp:FP m plan)(hf:dh m left)(eJ:EX m left plan){i:Nat}(hi:i<m.ae.length):(iI m left i).getD (w7 m plan (m.ae.getD i default)) false=true:=by
 have dO:=j6 hm.pr _ (aF (l:=m.ae) (i:=i) (d:=default) hi);obtain⟨q1,q2,q3,q4,q5⟩:=qA dO;unfold w7;rw[ag9 hm hf hi (rI hp GK) (rI hp GK),eJ _ GK,eJ _ GK];rfl
def ahh{m:ah}{plan:List Int}{left:List (List Bool)}(hm:VM m)(hp:FP m plan)(hf:dh m left)(n9:EI m left plan){i:Nat}(hi:i<m.ae.length)(j:Nat):(iI m left i).getD j false=decide (j=w7 m plan (m.ae.getD i default)):=by
 have dO:=j6 hm.pr _ (aF (l:=m.ae) (i:=i) (d:=default) hi);obtain⟨q1,q2,q3,q4,q5⟩:=qA dO;have g1:=rI hp (j:=(m.ae.getD i default).fst.toNat) GK;have g2:=rI hp (j:=(m.ae.getD i default).snd.toNat) GK;have o1:=n9 (m.ae.getD i default).fst.toNat GK;have o2:=n9 (m.ae.getD i default).snd.toNat GK;have f1:=hf.2 (m.ae.getD i default).fst.toNat (by have:=hf.1;omega);have f2:=hf.2 (m.ae.getD i default).snd.toNat (by have:=hf.1;omega);unfold iI w7;generalize m.ae.getD i default=p at *;rw[<- f1]at g1;rw[<- f2]at g2 ⊢;generalize left.getD p.fst.toNat default=a at *;generalize left.getD p.snd.toNat default=b at *;generalize plan.getD p.fst.toNat 0=x at *;generalize plan.getD p.snd.toNat 0=y at *;obtain⟨x,rfl⟩:=Ce g1.1;obtain⟨y,rfl⟩:=Ce g2.1;simp only[c7]at o1 o2;have hx:x<a.length:=GK;have hy:y<b.length:=GK;have e:((x:Int)*b.length+y).toNat=x*b.length+y:=by
  rw[show((x:Int)*b.length+y)=((x*b.length+y:Nat):Int) by simp,c7]
 rw[e];by_cases hj:j<a.length*b.length
 ·rw[Ia _ _ _ hj,o1,o2,<- Bool.decide_and];have T6:=Nat.div_add_mod j b.length;have Cs:=Nat.mod_lt j (show 0<b.length by omega);refine decide_eq_decide.2 ⟨λ⟨h1,h2⟩=>?_,λh=>?_⟩
  ·rw[h1,h2,tK]at T6;exact T6.symm
  ·rw[h,tK x,Nat.mul_add_div GK,PY hy,PZ,GL hy];exact⟨rfl,rfl⟩
 ·rw[az,List.getElem?_eq_none (by rw[EY];omega),Option.getD_none,decide_eq_false];intro h;have h3:(x+1)*b.length<=a.length*b.length:=Nat.mul_le_mul_right _ hx;rw[gn,wx]at h3;omega
def agr{m:ah}{plan:List Int}(hm:VM m)(hp:FP m plan)(left:List (List Bool))(hf:dh m left)(eJ:EX m left plan)(l:List Mv)(hl:∀ x∈l,iT m x=true):
  l8 m left (iV m l (S0 m,T0 m))<=wW (zF m plan) 0:=by
 have P:=parts hm hp left l hl;generalize iV m l (S0 m,T0 m)=g at *;rw[P.kK];have ha:=P.a;have hb:=P.b;have hc:=P.c;have gk:=P.ps;have aoU:=ag7 m left g;by_cases hF:1099511627776<=bN (vJ m plan) m.cls.length+bN (λi=>sX m plan (m.ae.getD i default)) m.ae.length+bN (λi=>oV plan (m.aD.getD i default)) m.aD.length
 ·omega
 have e1:∀ i,i<m.cls.length->(w8 left g i).2=true/\(w8 left g i).1<=(l9 plan g i).1:=λi hi=>by
  have:=ha.2 i hi;exact Mu _ _ _ _ (P.sl i hi) (eJ i hi) (by show(l9 plan g i).2=false;rw[P.sf i hi,decide_eq_false GK])
 have e2:∀ i,i<m.ae.length->(w9 m left g i).2=true/\(w9 m left g i).1<=(ma m plan g i).1:=λi hi=>by
  have:=hb.2 i hi;exact Mu _ _ _ _ (P.tl i hi) (ahg hm hp hf eJ hi) (by show(ma m plan g i).2=false;rw[P.tf i hi,decide_eq_false GK])
 have e3:∀ i,i<m.aD.length->(sV m left i).2=true/\(sV m left i).1<=oV plan (m.aD.getD i default):=λi hi=>by
  have h1:=hc.2 i hi;have zO:=hm.ct _ (aF (l:=m.aD) (i:=i) (d:=default) hi);have h2:=least_le hm hp hf eJ zO;refine⟨?_,h2⟩;unfold sV;dsimp only;cases hz:(decide ((m.aD.getD i default).cf=1099511627776)&&decide (0<jg left (m.aD.getD i default))) with
  |false=>rfl
  |true =>
   exfalso;rw[bb,decide_eq_true_eq,decide_eq_true_eq]at hz;have h3:oV plan (m.aD.getD i default)=1099511627776:=by
    unfold oV at h2 ⊢;rw[hz.1]at h2 ⊢;exact T4 GK
   omega
 rw[TU]
 ·have s1:=EV m.cls.length λi hi=>(e1 i hi).2;have s2:=EV m.ae.length λi hi=>(e2 i hi).2;have s3:=EV m.aD.length λi hi=>(e3 i hi).2;unfold EU;unfold yp at gk;omega
 ·rintro(⟨i,hi,h⟩|⟨i,hi,h⟩|⟨i,hi,h⟩)
  ·rw[(e1 i hi).1]at h;cases h
  ·rw[(e2 i hi).1]at h;cases h
  ·rw[(e3 i hi).1]at h;cases h
def S7{m:ah}{plan:List Int}(hm:VM m)(hp:FP m plan)(left:List (List Bool))(hf:dh m left)(n9:EI m left plan)(l:List Mv)(hl:∀ x∈l,iT m x=true):
  l8 m left (iV m l (S0 m,T0 m))=wW (zF m plan) 0:=by
 have P:=parts hm hp left l hl;generalize iV m l (S0 m,T0 m)=g at *;rw[P.kK];have ha:=P.a;have hb:=P.b;have hc:=P.c;have gk:=P.ps;have e1:∀ i,i<m.cls.length->w8 left g i=if(l9 plan g i).2=false then((l9 plan g i).1,true) else(0,false):=λi hi =>
  Mw _ _ _ _ (P.sl i hi) (n9 i hi) rfl
 have e2:∀ i,i<m.ae.length->w9 m left g i=if(ma m plan g i).2=false then((ma m plan g i).1,true) else(0,false):=λi hi =>
  Mw _ _ _ _ (P.tl i hi) (ahh hm hp hf n9 hi) rfl
 have e3:∀ i,i<m.aD.length->jg left (m.aD.getD i default)=oV plan (m.aD.getD i default):=λi hi =>
  ahb hm hp hf n9 (hm.ct _ (aF hi))
 by_cases hN:Mx m left g
 ·rw[ag6 hN];rcases hN with⟨i,hi,h⟩|⟨i,hi,h⟩|⟨i,hi,h⟩
  ·rw[e1 i hi,P.sf i hi]at h;have:=ha.2 i hi;by_cases hx:1099511627776<=vJ m plan i
   ·omega
   ·rw[decide_eq_false hx,if_pos rfl]at h;cases h
  ·rw[e2 i hi,P.tf i hi]at h;have:=hb.2 i hi;by_cases hx:1099511627776<=sX m plan (m.ae.getD i default)
   ·omega
   ·rw[decide_eq_false hx,if_pos rfl]at h;cases h
  ·have h1:=hc.2 i hi;unfold sV at h;dsimp only at h;rw[e3 i hi,Bool.not_eq_false',bb,decide_eq_true_eq,decide_eq_true_eq]at h;have h3:oV plan (m.aD.getD i default)=1099511627776:=by
    obtain⟨h4,h5⟩:=h;unfold oV at h5 ⊢;rw[h4]at h5 ⊢;exact T4 h5
   omega
 ·rw[TU hN];congr 1;rw[<- gk];unfold EU yp;congr 1
  ·congr 1
   ·refine jf _ λi hi=>?_;rw[e1 i hi];split
    ·rfl
    ·rename_i h;exact absurd (.inl ⟨i,hi,by rw[e1 i hi,if_neg h]⟩) hN
   ·refine jf _ λi hi=>?_;rw[e2 i hi];split
    ·rfl
    ·rename_i h;exact absurd (.inr (.inl ⟨i,hi,by rw[e2 i hi,if_neg h]⟩)) hN
  ·exact jf _ λi hi=>e3 i hi
def pJ:List Int->List Bool->Int->Int
 |x::r,b::s,n=>pJ r s (if b=true then min n x else n)
 |_,_,n=>n
def Ic(ay:List Int)(w i:Nat)(a:Bool):Nat->List Bool->Int->Int
 |_,[],n=>n
 |k,b::r,n=>Ic ay w i a (k+1) r (if a=true/\b=true then min n (ay.getD (i*w+k) 0) else n)
def Ie(ay:List Int)(w:Nat)(rb:List Bool):Nat->List Bool->Int->Int
 |_,[],n=>n
 |i,a::r,n=>Ie ay w rb (i+1) r (Ic ay w i a 0 rb n)
def Ig(m:ah)(left:List (List Bool))(p:Pr):Int:=Ie p.ay (m.cls.getD p.snd.toNat default).length (left.getD p.snd.toNat default) 0 (left.getD p.fst.toNat default) 1099511627776
def w0:List Bool->Int->Int
 |[],n=>n
 |b::r,n=>w0 r (if b=true then n+1 else n)
def pH(c:Int)(row:List Bool):List Ld->Int×Int->Int×Int
 |[],z=>z
 |x::r,z=>pH c row r (if x.cls=c/\row.getD x.opt.toNat false=true then(z.1-1,if z.2<0\/x.wt<z.2 then x.wt else z.2) else z)
def zK(l:List Ld)(c:Int)(row:List Bool):Int:=if 0<(pH c row l (w0 row 0,-1)).1\/(pH c row l (w0 row 0,-1)).2<0 then 0 else(pH c row l (w0 row 0,-1)).2
def C1(l:List Ld)(left:List (List Bool)):Option Int->List Ld->Int->Int
 |_,[],n=>n
 |q,x::r,n=>C1 l left (some x.cls) r (if q=some x.cls then n else n+zK l x.cls (left.getD x.cls.toNat default))
def TK(n cf:Int):Int:=if 0<n/\cf=1099511627776 then 1099511627776 else min (n*cf) 1099511627776
def EJ(left:List (List Bool))(c:Ct):Int:=TK (max (C1 c.bh left none c.bh (-c.most)) 0) c.cf
def Ih(left:List (List Bool)):Nat->List (List cz)->Int->Option Int
 |_,[],n=>some n
 |i,c::r,n=>if pJ (b9 c) (left.getD i default) 1099511627776=1099511627776 then none else Ih left (i+1) r (n+pJ (b9 c) (left.getD i default) 1099511627776)
def EP(m:ah)(left:List (List Bool)):List Pr->Int->Option Int
 |[],n=>some n
 |p::r,n=>if Ig m left p=1099511627776 then none else EP m left r (n+Ig m left p)
def EL(left:List (List Bool)):List Ct->Int->Option Int
 |[],n=>some n
 |c::r,n=>if EJ left c=1099511627776 then none else EL left r (n+EJ left c)
def EM:Option Int->Int
 |none=>1099511627776
 |some n=>min n 1099511627776
def EO(m:ah)(left:List (List Bool)):Option Int->Option Int
 |none=>none
 |some n=>EL left m.aD n
def H2(m:ah)(left:List (List Bool)):Option Int->Option Int
 |none=>none
 |some n=>EP m left m.ae n
def CX(m:ah)(left:List (List Bool)):Int:=EM (EO m left (H2 m left (Ih left 0 m.cls 0)))
def xd(q:Int×Bool):Int:=if q.2=true then q.1 else 1099511627776
def MA:∀ (l:List Int) (s:List Bool) (b:Int×Bool),(∀ x∈l,bT x)->(b.2=true->b.1<1099511627776) ->
  xd (dC (dJ l) s b)=pJ l s (xd b)/\((dC (dJ l) s b).2=true->(dC (dJ l) s b).1<1099511627776)
 |[],s,b,_,hb=>⟨by cases s<;>rfl,hb⟩
 |x::r,[],b,_,hb=>⟨rfl,hb⟩
 |x::r,is::s,b,h,hb=>by
  have hx:=h x GM;unfold bT at hx;rw[show dJ (x::r)=eP x::dJ r from rfl,dC,pJ];have key:xd (if is=true/\(eP x).2=false/\(b.2=false\/(eP x).1<b.1) then((eP x).1,true) else b)=(if is=true then min (xd b) x else xd b):=by
   obtain⟨b1,b2⟩:=b;unfold eP xd;dsimp only at hb ⊢;cases is<;>cases b2<;>simp at hb ⊢<;>(repeat' split)<;>simp_all<;>omega
  have:=MA r s (if is=true/\(eP x).2=false/\(b.2=false\/(eP x).1<b.1) then((eP x).1,true) else b) (λy hy=>h y (by simp[hy])) (by
   split
   ·rename_i hc;intro _;have:=hc.2.1;unfold eP at this ⊢;simp at this;exact this
   ·exact hb)
  rw[key]at this;exact this
def T7:∀ (l:List Int) (s t:List Bool) (n:Int),s.length<=l.length->pJ l (s++t) n=pJ (l.drop s.length) t (pJ l s n)
 |l,[],t,n,_=>by cases l<;>rfl
 |[],b::s,t,n,h=>by simp at h
 |x::r,b::s,t,n,h=>by
  rw[List.cons_append,pJ,pJ,dq,List.drop_succ_cons];exact T7 r s t _ (by simpa using h)
def T8(ay:List Int)(w i:Nat)(a:Bool):∀ (r:List Bool) (k:Nat) (n:Int),i*w+k+r.length<=ay.length->Ic ay w i a k r n=pJ (ay.drop (i*w+k)) (r.map (a && ·)) n
 |[],k,n,_=>by cases(ay.drop (i*w+k))<;>rfl
 |b::r,k,n,h=>by
  have aX:i*w+k<ay.length:=by simp at h;omega
  have hd:ay.drop (i*w+k)=ay.getD (i*w+k) 0::ay.drop (i*w+(k+1)):=by
   rw[List.drop_eq_getElem_cons aX,az,List.getElem?_eq_getElem aX];rfl
  rw[Ic,hd,ei,pJ,T8 ay w i a r (k+1) _ (by simp at h;omega)];congr 1;cases a<;>cases b<;>simp
def T9(ay:List Int)(w:Nat)(rb:List Bool)(hw:rb.length=w):∀ (r:List Bool) (i:Nat) (n:Int),i*w+r.length*w<=ay.length->Ie ay w rb i r n=pJ (ay.drop (i*w)) (rJ r rb) n
 |[],i,n,_=>by show n=pJ _ [] n;cases(ay.drop (i*w))<;>rfl
 |a::r,i,n,h=>by
  have h2:i*w+(r.length+1)*w<=ay.length:=h;rw[gn,wx]at h2;rw[Ie,T8 ay w i a rb 0 n GK,T9 ay w rb hw r (i+1) _ (by rw[gn];omega)];show _=pJ _ (rb.map (a && ·)++rJ r rb) n;rw[T7 _ _ _ _ (by rw[fK,List.length_drop];omega),List.drop_drop,fK,hw,gn,wx];simp only[jq]
def jX:List (Int×Bool)->Int->Option Int
 |[],n=>some n
 |p::r,n=>if p.2=false then none else jX r (n+p.1)
def H3:∀ (l:List (Int×Bool)) (n:Int),jX l n=if(bQ l (n,false)).2=true then none else some (bQ l (n,false)).1
 |[],n=>rfl
 |p::r,n=>by
  rw[jX];obtain⟨a,b⟩:=p;cases b
  ·show none=if(bQ r (n+a,true)).2=true then none else _;rw[ER,if_pos rfl]
  ·exact H3 r (n+a)
def TM{m:ah}(hm:VM m)(left:List (List Bool)):∀ (k i:Nat) (n:Int),i+k=m.cls.length->Ih left i (m.cls.drop i) n=jX ((mB i k).map λj=>dC ((S0 m).getD j default) (left.getD j default) (0,false)) n
 |0,i,n,h=>by rw[jA GK];rfl
 |k+1,i,n,h=>by
  have hi:i<m.cls.length:=GK;have hs:(S0 m).getD i default=dJ (b9 (m.cls.getD i default)):=by rw[S0,iS _ _ _ hi]
  have h2:=MA (b9 (m.cls.getD i default)) (left.getD i default) (0,false) (λx hx=>by
   obtain⟨o,ho,rfl⟩:=List.mem_map.1 hx;exact EW (hm.sW _ (aF hi) o ho)) GM
  rw[show xd (0,false)=1099511627776 from rfl]at h2;rw[kd m.cls i default hi,Ih,wu,ei,jX,TM hm left k (i+1) _ GK,hs,<- h2.1];generalize dC (dJ (b9 (m.cls.getD i default))) (left.getD i default) (0,false)=q at *;obtain⟨a,b⟩:=q;unfold xd at *;cases b<;>simp at h2 ⊢;intro e;omega
def TN{m:ah}(hm:VM m){left:List (List Bool)}(hf:dh m left):∀ (k i:Nat) (n:Int),i+k=m.ae.length->EP m left (m.ae.drop i) n=jX ((mB i k).map λj=>dC ((T0 m).getD j default) (iI m left j) (0,false)) n
 |0,i,n,h=>by rw[jA GK];rfl
 |k+1,i,n,h=>by
  have hi:i<m.ae.length:=GK;have hs:(T0 m).getD i default=dJ (m.ae.getD i default).ay:=by rw[T0,iS _ _ _ hi]
  have dO:=j6 hm.pr _ (aF (d:=default) hi);obtain⟨_,p1,p2,p3,p4⟩:=qA dO;have f1:=hf.2 (m.ae.getD i default).fst.toNat (by rw[hf.1];omega);have f2:=hf.2 (m.ae.getD i default).snd.toNat (by rw[hf.1];omega);have h2:=MA (m.ae.getD i default).ay (iI m left i) (0,false) (Ii dO) GM;rw[show xd (0,false)=1099511627776 from rfl]at h2;have h3:Ig m left (m.ae.getD i default)=pJ (m.ae.getD i default).ay (iI m left i) 1099511627776:=by
   unfold Ig iI;rw[T9 _ _ _ f2 _ 0 _ (by rw[GN,gJ,f1];have:=p4;exact_mod_cast Int.le_of_eq this.symm),GN,List.drop_zero]
  rw[kd m.ae i default hi,EP,wu,ei,jX,TN hm hf k (i+1) _ GK,hs,h3,<- h2.1];generalize dC (dJ (m.ae.getD i default).ay) (iI m left i) (0,false)=q at *;obtain⟨a,b⟩:=q;unfold xd at *;cases b<;>simp at h2 ⊢;intro e;omega
end T

