import Derived.Test.YtfoopmojjjpapaaGreatX18
set_option linter.all false
set_option maxHeartbeats 0
set_option maxRecDepth 20000
open List renaming getD_eq_getElem?_getD→ax,getElem?_set→bP,getElem?_set_ne→fD,getD_cons_zero→iv,getD_cons_succ→fq,range→bk,length_cons→cX,getElem?_eq_none→fl,map_cons→fP,length_map→fF,range'→nr,drop_eq_nil_of_le→jv,range'_succ→xG,drop_zero→y0,mem_cons→bm
open Option renaming getD_some→mI,map_some→gF,some→cy
open Int renaming mul_le_mul_of_nonneg_right→CF,one_mul→IS,toNat_natCast→cY,toNat_of_nonneg→ss,le_refl→kB,lt_or_le→IT,eq_ofNat_of_zero_le→Ol,zero_add→zb
open Bool renaming and_eq_true→bg,not_eq_true'→kz,false_eq_true→iZ
open Nat renaming add_zero→iw,mul_comm→sq,div_eq_of_lt→Of,mul_add_mod→Og,mod_eq_of_lt→E1,zero_add→fc,add_mul→fh,one_mul→xH,zero_mul→EU,lt_or_ge→du
open Go Go.Am
namespace T
def R4(r:List Nm)(i q:Nat)(a:Int)(hi:i<r.length):(jn r i a).getD q default=if i=q then((r.getD q default).1+a,(r.getD q default).2) else r.getD q default:=by
 unfold jn;by_cases h:i=q
 ·subst h;rw[if_pos rfl];simp only[ax,bP,hi,if_true,mI]
 ·rw[if_neg h];simp only[ax,fD h]
def R5(r:List Nm){i q:Nat}(a:Int)(h:i≠q):(jn r i a).getD q default=r.getD q default:=by
 unfold jn;simp only[ax,fD h]
def Gu{f:Nat->Nat}{a:Int}{t:List Nm}{q:Nat}:∀ k:Nat,(∀ j,j<k->f j≠q)->(gq f a k t).getD q default=t.getD q default
 |0,_=>rfl
 |k+1,h=>by rw[gq,R5 _ _ (h k AT),Gu k λj hj=>h j AT]
def KC{f:Nat->Nat}{a:Int}{t:List Nm}{q j0:Nat}(h0:f j0=q)(hq:q<t.length):∀ k:Nat,j0<k->(∀ j,j<k->j≠j0->f j≠q)->(gq f a k t).getD q default=((t.getD q default).1-a,(t.getD q default).2)
 |0,hk,_=>AT
 |k+1,hk,h=>by
  rw[gq];by_cases e:j0=k
  ·subst e;rw[h0,R4 _ _ _ _ (by rw[zU];exact hq),if_pos rfl,Gu j0 λj hj=>h j AT AT];congr 1
  ·rw[R5 _ _ (h k AT AT),KC h0 hq k AT λj hj=>h j AT]
def Gv{a b n j k:Int}(hj:0<=j/\j<n)(hk:0<=k/\k<n)(h:a*n+j=b*n+k):a=b/\j=k:=by
 rcases Int.lt_trichotomy a b with hl|hl|hl
 ·have:(a+1)*n<=b*n:=CF AT AT;rw[Int.add_mul,IS]at this;omega
 ·subst hl;omega
 ·have:(b+1)*n<=a*n:=CF AT AT;rw[Int.add_mul,IS]at this;omega
def lh(plan:List Int)(g:Lg)(i:Nat):Nm:=(g.1.getD i default).getD (plan.getD i 0).toNat default
def vu(m:ah)(plan:List Int)(p:Pr):Nat:=(plan.getD p.fst.toNat 0*(m.cls.getD p.snd.toNat default).length+plan.getD p.snd.toNat 0).toNat
def lj(m:ah)(plan:List Int)(g:Lg)(i:Nat):Nm:=(g.2.getD i default).getD (vu m plan (m.ae.getD i default)) default
def KD{α:Type}[Inhabited α](l:List α)(i j:Nat)(x:α)(hi:i<l.length):(l.set i x).getD j default=if i=j then x else l.getD j default:=by
 by_cases h:i=j
 ·subst h;rw[if_pos rfl];simp only[ax,bP,hi,if_true,mI]
 ·rw[if_neg h];simp only[ax,fD h]
structure Gw(m:ah)(x:Mv):Prop where
 p:0<=x.pair/\x.pair<m.ae.length
 s:x.side=0\/x.side=1
 c:0<=eI m x/\eI m x<m.cls.length
 o:0<=x.opt/\x.opt<(m.cls.getD (eI m x).toNat default).length
def aeS{m:ah}{x:Mv}(h:il m x=true):Gw m x:=by
 unfold il at h;rw[bg,decide_eq_true_eq,iN]at h;exact⟨AT,AT,AT,AT⟩
def qH{m:ah}{plan:List Int}(hp:FP m plan){j:Nat}(hj:j<m.cls.length):0<=plan.getD j 0/\plan.getD j 0<(m.cls.getD j default).length:=by
 have h:=iN.1 (hp.get j (by rw[hp.len];exact hj));rw[cY]at h;exact h.2.2
abbrev DA(m:ah)(plan:List Int)(x:Mv):Prop:=plan.getD (eI m x).toNat 0=x.opt
def aeT{m:ah}{plan:List Int}(hp:FP m plan){B:Int}{g:Lg}(h:LG m B g){x:Mv}(hx:Gw m x)(i:Nat):
  lh plan (jF m x g) i=if i=(eI m x).toNat then(if DA m plan x then((lh plan g i).1+x.amt,(lh plan g i).2) else lh plan g i) else lh plan g i:=by
 obtain⟨hxp,cO,uk,vv⟩:=hx;have h1:=h.s;have h2:=h.sl (eI m x).toNat AT;have h3:=qH hp (j:=(eI m x).toNat) AT;unfold lh jF DA;dsimp only;rw[KD _ _ _ _ AT];by_cases e:i=(eI m x).toNat
 ·subst e;rw[if_pos rfl,if_pos rfl,R4 _ _ _ _ AT];by_cases e2:plan.getD (eI m x).toNat 0=x.opt
  ·rw[if_pos e2,if_pos (by rw[e2])]
  ·rw[if_neg e2,if_neg AT]
 ·rw[if_neg (Ne.symm e),if_neg e]
def aeV{m:ah}(hm:VM m){plan:List Int}(hp:FP m plan){B:Int}{g:Lg}(h:LG m B g){x:Mv}(hx:Gw m x)(i:Nat):
  lj m plan (jF m x g) i=if i=x.pair.toNat then(if DA m plan x then((lj m plan g i).1-x.amt,(lj m plan g i).2) else lj m plan g i) else lj m plan g i:=by
 obtain⟨hxp,cO,uk,vv⟩:=hx;have h1:=h.t;have h2:=h.tl x.pair.toNat AT;unfold lj jF;dsimp only;rw[KD _ _ _ _ AT];by_cases e:i=x.pair.toNat;rotate_left
 ·rw[if_neg (Ne.symm e),if_neg e]
 subst e;rw[if_pos rfl,if_pos rfl];have dp:=jG hm.pr _ (aE (l:=m.ae) (i:=x.pair.toNat) (d:=default) AT);unfold DA;unfold eI at *;unfold nN vu;generalize m.ae.getD x.pair.toNat default=p at *;obtain⟨q1,q2,q3,q4,q5⟩:=qI dp;have ha:=qH hp (j:=p.fst.toNat) AT;have hb:=qH hp (j:=p.snd.toNat) AT;have wV:=hm.opt _ (aE (l:=m.cls) (i:=p.fst.toNat) (d:=default) AT);have ry:=hm.opt _ (aE (l:=m.cls) (i:=p.snd.toNat) (d:=default) AT);generalize g.2.getD x.pair.toNat default=t at *;generalize KE:plan.getD p.fst.toNat 0=a at *;generalize mV:plan.getD p.snd.toNat 0=b at *;generalize DB:(m.cls.getD p.fst.toNat default).length=na at *;generalize aeW:(m.cls.getD p.snd.toNat default).length=nb at *;have nP:=zV (x:=a) (y:=b) (a:=na) (b:=nb) ha hb AT AT;rcases cO with hs|hs
 ·rw[if_pos hs]at uk vv;rw[if_pos hs,if_pos hs,KE];rw[DB]at vv;dsimp only;have Gx:=zV (x:=x.opt) (y:=b) (a:=na) (b:=nb) vv hb AT AT;by_cases e2:a=x.opt
  ·rw[if_pos e2];refine KC (j0:=b.toNat) ?_ AT nb AT λj hj bZ he=>?_
   ·rw[e2,ss hb.1]
   ·have:=Gv (a:=x.opt) (b:=a) (n:=nb) (j:=j) (k:=b) AT AT AT;omega
  ·rw[if_neg e2];refine Gu nb λj hj he=>?_;have:=Gv (a:=x.opt) (b:=a) (n:=nb) (j:=j) (k:=b) AT AT AT;omega
 ·rw[if_neg AT]at uk vv;have wW:¬ x.side=0:=AT;rw[if_neg wW,if_neg wW,mV];rw[aeW]at vv;dsimp only;by_cases e2:b=x.opt
  ·rw[if_pos e2];refine KC (j0:=a.toNat) ?_ AT na AT λj hj bZ he=>?_
   ·rw[e2,ss ha.1]
   ·have FM:=zV (x:=(j:Int)) (y:=x.opt) (a:=na) (b:=nb) AT vv AT AT;have:=Gv (a:=(j:Int)) (b:=a) (n:=nb) (j:=x.opt) (k:=b) AT AT AT;omega
  ·rw[if_neg e2];refine Gu na λj hj he=>?_;have FM:=zV (x:=(j:Int)) (y:=x.opt) (a:=na) (b:=nb) AT vv AT AT;have:=Gv (a:=(j:Int)) (b:=a) (n:=nb) (j:=x.opt) (k:=b) AT AT AT;omega
def wX(m:ah)(plan:List Int)(g:Lg):Int:=br (λi=>(lh plan g i).1) m.cls.length+br (λi=>(lj m plan g i).1) m.ae.length
def aeX{m:ah}(hm:VM m){plan:List Int}(hp:FP m plan){B:Int}{g:Lg}(h:LG m B g){x:Mv}(hx:Gw m x):
  wX m plan (jF m x g)=wX m plan g/\(∀ i,(lh plan (jF m x g) i).2=(lh plan g i).2)/\∀ i,(lj m plan (jF m x g) i).2=(lj m plan g i).2:=by
 have hS:=aeT hp h hx;have hT:=aeV hm hp h hx;refine⟨?_,λi=>?_,λi=>?_⟩
 ·unfold wX;by_cases hh:DA m plan x
  ·rw[iP (g:=λi=>if i=(eI m x).toNat then(lh plan g i).1+x.amt else(lh plan g i).1) m.cls.length λi _=>by
    rw[hS,if_pos hh];split<;>rfl,iP (g:=λi=>if i=x.pair.toNat then(lj m plan g i).1+-x.amt else(lj m plan g i).1) m.ae.length λi _=>by
    rw[hT,if_pos hh];split<;>rfl,ym,ym,if_pos (by have:=hx.c;omega),if_pos (by have:=hx.p;omega)]
   omega
  ·rw[iP (g:=λi=>(lh plan g i).1) m.cls.length λi _=>by rw[hS,if_neg hh];simp,iP (g:=λi=>(lj m plan g i).1) m.ae.length λi _=>by rw[hT,if_neg hh];simp]
 ·rw[hS];split<;>(try split)<;>rfl
 ·rw[hT];split<;>(try split)<;>rfl
def R6{m:ah}(hm:VM m){plan:List Int}(hp:FP m plan):∀ (l:List Mv) (B:Int) (g:Lg),0<=B->LG m B g->(∀ x∈l,il m x=true) ->
  wX m plan (iF m l g)=wX m plan g/\(∀ i,(lh plan (iF m l g) i).2=(lh plan g i).2)/\∀ i,(lj m plan (iF m l g) i).2=(lj m plan g i).2
 |[],B,g,_,_,_=>⟨rfl,λ_=>rfl,λ_=>rfl⟩
 |x::r,B,g,hB,h,hx=>by
  have h1:=aeX hm hp h (aeS (hx x IM));have h2:=R6 hm hp r _ (jF m x g) AT (R7 hm hB h (hx x IM)) (λy hy=>hx y (by simp[hy]));exact⟨h2.1.trans h1.1,λi=>(h2.2.1 i).trans (h1.2.1 i),λi=>(h2.2.2 i).trans (h1.2.2 i)⟩
def Gy:∀ (l:List Nm) (s:List Bool) (b:Int×Bool),b.2=true->(cI l s b).2=true/\(cI l s b).1<=b.1
 |[],s,b,h=>by cases s<;>exact⟨h,kB _⟩
 |p::r,[],b,h=>⟨h,kB _⟩
 |p::r,is::s,b,h=>by
  rw[cI];split
  ·rename_i hc;have h2:=Gy r s (p.1,true) rfl;have h3:p.1<b.1:=by
    rcases hc.2.2 with h4|h4
    ·rw[h]at h4;cases h4
    ·exact h4
   exact⟨h2.1,by have:=h2.2;dsimp only at this;omega⟩
  ·exact Gy r s b h
def Gz:∀ (l:List Nm) (s:List Bool) (b:Int×Bool) (i:Nat),i<l.length->s.getD i false=true->(l.getD i default).2=false->(cI l s b).2=true/\(cI l s b).1<=(l.getD i default).1
 |[],s,b,i,h,_,_=>by simp at h
 |p::r,[],b,i,_,h,_=>by simp at h
 |p::r,is::s,b,0,_,h1,h2=>by
  rw[iv]at h1 h2 ⊢;rw[cI];split
  ·exact Gy r s (p.1,true) rfl
  ·rename_i hc;have hb:b.2=true/\b.1<=p.1:=by
    cases oA:b.2 with
    |false=>exact absurd ⟨h1,h2,.inl oA⟩ hc
    |true=>exact⟨rfl,by rcases IT p.1 b.1 with h|h;exact absurd ⟨h1,h2,.inr h⟩ hc;exact h⟩
   have:=Gy r s b hb.1;exact⟨this.1,AT⟩
 |p::r,is::s,b,i+1,h,h1,h2=>by
  rw[fq]at h1 h2 ⊢;rw[cI];exact Gz r s _ i (by simpa using h) h1 h2
def R8:∀ (l:List Nm) (s:List Bool) (b:Int×Bool),(∀ i,s.getD i false=false)->cI l s b=b
 |[],s,b,_=>by cases s<;>rfl
 |p::r,[],b,_=>rfl
 |p::r,is::s,b,h=>by
  have h0:=h 0;rw[iv]at h0;rw[cI,if_neg (by rw[h0];simp)];exact R8 r s b λi=>by have:=h (i+1);rwa [fq]at this
def KF:∀ (l:List Nm) (s:List Bool) (b:Int×Bool) (i:Nat),i<l.length->(∀ j,s.getD j false=decide (j=i))->b.2=false ->
  cI l s b=if(l.getD i default).2=false then((l.getD i default).1,true) else b
 |[],s,b,i,h,_,_=>by simp at h
 |p::r,[],b,i,_,h,_=>by have:=h i;simp at this
 |p::r,is::s,b,0,_,h,hb=>by
  have h0:=h 0;rw[iv,decide_eq_true rfl]at h0;rw[iv,cI,R8 r s _ λi=>by have:=h (i+1);rw[fq]at this;rw[this];simp];by_cases hp:p.2=false
  ·rw[if_pos ⟨h0,hp,.inl hb⟩,if_pos hp]
  ·rw[if_neg (λhc=>hp hc.2.1),if_neg hp]
 |p::r,is::s,b,i+1,hi,h,hb=>by
  have h0:=h 0;rw[iv,decide_eq_false AT]at h0;rw[fq,cI,if_neg (by rw[h0];simp)];exact KF r s b i (by simpa using hi) (λj=>by have:=h (j+1);rw[fq]at this;rw[this];simp) hb
def GA(f:Nat->Int×Bool)(z:Int×Bool):∀ n,(bK ((bk n).map f) z).1=z.1+br (λi=>(f i).1) n
 |0=>by simp[bK,br]
 |n+1=>by rw[yn,BH,br];dsimp only;rw[GA f z n];omega
def zW(f:Nat->Int×Bool)(z:Int×Bool):∀ n,(bK ((bk n).map f) z).2=true↔(z.2=true\/∃ i,i<n/\(f i).2=false)
 |0=>by simp[bK]
 |n+1=>by
  rw[yn,BH];dsimp only;rw[Bool.or_eq_true,zW f z n,kz];constructor
  ·rintro((h|⟨i,hi,h⟩)|h)
   ·exact .inl h
   ·exact .inr ⟨i,AT,h⟩
   ·exact .inr ⟨n,AT,h⟩
  ·rintro(h|⟨i,hi,h⟩)
   ·exact .inl (.inl h)
   ·by_cases e:i=n
    ·subst e;exact .inr h
    ·exact .inl (.inr ⟨i,AT,h⟩)
def pD(left:List (List Bool))(g:Lg)(i:Nat):Int×Bool:=cI (g.1.getD i default) (left.getD i default) (0,false)
def pE(m:ah)(left:List (List Bool))(g:Lg)(i:Nat):Int×Bool:=cI (g.2.getD i default) (gr m left i) (0,false)
def mq(m:ah)(left:List (List Bool))(i:Nat):Int×Bool:=(im left (m.aC.getD i default),!(decide ((m.aC.getD i default).cf=1099511627776)&&decide (0<im left (m.aC.getD i default))))
def BI(m:ah)(left:List (List Bool))(g:Lg):Int:=br (λi=>(pD left g i).1) m.cls.length+br (λi=>(pE m left g i).1) m.ae.length+br (λi=>(mq m left i).1) m.aC.length
def GC(m:ah)(left:List (List Bool))(g:Lg):Prop:=(∃ i,i<m.cls.length/\(pD left g i).2=false)\/(∃ i,i<m.ae.length/\(pE m left g i).2=false)\/∃ i,i<m.aC.length/\(mq m left i).2=false
def R9{m:ah}{left:List (List Bool)}{g:Lg}(h:GC m left g):kk m left g=1099511627776:=by
 unfold kk;rw[if_pos];show(bK ((bk m.aC.length).map (mq m left)) (bK ((bk m.ae.length).map (pE m left g)) (bK ((bk m.cls.length).map (pD left g)) (0,false)))).2=true;rw[zW,zW,zW];rcases h with h|h|h
 ·exact .inl (.inl (.inr h))
 ·exact .inl (.inr h)
 ·exact .inr h
def GD{m:ah}{left:List (List Bool)}{g:Lg}(h:¬ GC m left g):kk m left g=min (BI m left g) 1099511627776:=by
 have h1:¬ (bK ((bk m.aC.length).map (mq m left)) (bK ((bk m.ae.length).map (pE m left g)) (bK ((bk m.cls.length).map (pD left g)) (0,false)))).2=true:=by
  rw[zW,zW,zW];rintro(((h2|h2)|h2)|h2)
  ·cases h2
  ·exact h (.inl h2)
  ·exact h (.inr (.inl h2))
  ·exact h (.inr (.inr h2))
 have h2:(bK ((bk m.aC.length).map (mq m left)) (bK ((bk m.ae.length).map (pE m left g)) (bK ((bk m.cls.length).map (pD left g)) (0,false)))).1=BI m left g:=by
  rw[GA,GA,GA];unfold BI;dsimp only;omega
 show(if(bK ((bk m.aC.length).map (mq m left)) (bK ((bk m.ae.length).map (pE m left g)) (bK ((bk m.cls.length).map (pD left g)) (0,false)))).2=true then(1099511627776:Int) else min (bK ((bk m.aC.length).map (mq m left)) (bK ((bk m.ae.length).map (pE m left g)) (bK ((bk m.cls.length).map (pD left g)) (0,false)))).1 1099511627776)=_;rw[if_neg h1,h2]
def Sa(m:ah)(left:List (List Bool))(g:Lg):kk m left g<=1099511627776:=by
 unfold kk;split<;>omega
def GF:∀ (l:List Ld) (c o w:Int),(∀ y∈l,¬ (y.cls=c/\y.opt=o))->fj l c o w=w
 |[],_,_,_,_=>rfl
 |x::r,c,o,w,h=>by rw[fj,if_neg (h x IM),GF r c o w λy hy=>h y (by simp[hy])]
def Sb{m:ah}:∀ {l:List Ld} {q:Option Ld} (c o:Int),eu m q l=true->fj l c o 0=uy l c o
 |[],_,_,_,_=>rfl
 |x::r,q,c,o,h=>by
  have hr:eu m (some x) r=true:=by
   cases q<;>rw[eu]at h<;>simp only[bg]at h<;>exact h.2
  rw[fj,uy];by_cases e:x.cls=c/\x.opt=o
  ·rw[if_pos e,if_pos e];exact GF r c o _ λy hy he=>by have:=yo hr y hy;omega
  ·rw[if_neg e,if_neg e];exact Sb c o hr
def Sd(l:List Ld):∀ (plan:List Int) (i:Nat),td l i plan=br (λj=>uy l (i+j:Nat) (plan.getD j 0)) plan.length
 |[],i=>rfl
 |o::r,i=>by
  rw[td,Sd l r (i+1),cX,yp];simp only[iv,fq,iw];rw[iP (g:=λj=>uy l (i+(j+1):Nat) (r.getD j 0)) r.length λj _=>by rw[show i+1+j=i+(j+1) by omega]]
def BJ{l:List Ld}(h:∀ x∈l,1<=x.wt/\x.wt<=1000)(c:Int):∀ (row:List Bool) (o:Nat) (b:Int),0<=b->0<=dD l c o row b/\dD l c o row b<=b
 |[],_,b,hb=>⟨hb,kB _⟩
 |is::r,o,b,hb=>by
  rw[dD];have hw:=yq h c o 0 AT;split
  ·rename_i hc;have:=BJ h c r (o+1) (fj l c o 0) hw.1;omega
  ·exact BJ h c r (o+1) b hb
def DC{l:List Ld}(h:∀ x∈l,1<=x.wt/\x.wt<=1000)(c:Int):∀ (row:List Bool) (o:Nat) (b:Int) (i:Nat),row.getD i false=true->dD l c o row b<=fj l c (o+i:Nat) 0
 |[],_,b,i,hi=>by simp at hi
 |is::r,o,b,0,hi=>by
  rw[iv]at hi;have hw:=yq h c o 0 AT;rw[dD];simp only[iw];split
  ·exact(BJ h c r (o+1) _ hw.1).2
  ·rename_i hc;have hb:0<=b/\b<=fj l c o 0:=by
    constructor
    ·rcases IT b 0 with h2|h2
     ·exact absurd ⟨hi,.inl h2⟩ hc
     ·exact h2
    ·rcases IT (fj l c o 0) b with h2|h2
     ·exact absurd ⟨hi,.inr h2⟩ hc
     ·exact h2
   have:=BJ h c r (o+1) b hb.1;omega
 |is::r,o,b,i+1,hi=>by
  rw[fq]at hi;rw[dD,show o+(i+1)=o+1+i by omega];exact DC h c r (o+1) _ i hi
def KG(l:List Ld)(c:Int):∀ (row:List Bool) (o:Nat) (b:Int),(∀ i,row.getD i false=false)->dD l c o row b=b
 |[],_,_,_=>rfl
 |is::r,o,b,h=>by
  have h0:=h 0;rw[iv]at h0;rw[dD,if_neg (by rw[h0];simp)];exact KG l c r (o+1) b λi=>by have:=h (i+1);rwa [fq]at this
def Se(l:List Ld)(c:Int):∀ (row:List Bool) (o:Nat) (i:Nat),(∀ j,row.getD j false=decide (j=i))->dD l c o row (-1)=fj l c (o+i:Nat) 0
 |[],_,i,h=>by have:=h i;simp at this
 |is::r,o,0,h=>by
  have h0:=h 0;rw[iv,decide_eq_true rfl]at h0;rw[dD,if_pos ⟨h0,.inl IP⟩,iw];exact KG l c r (o+1) _ λj=>by have:=h (j+1);rw[fq]at this;rw[this];simp
 |is::r,o,i+1,h=>by
  have h0:=h 0;rw[iv,decide_eq_false AT]at h0;rw[dD,if_neg (by rw[h0];simp),show o+(i+1)=o+1+i by omega];exact Se l c r (o+1) i λj=>by have:=h (j+1);rw[fq]at this;rw[this];simp
def GG{f:Nat->Int}:∀ (n:Nat),(∀ i<n,0<=f i)->0<=br f n/\∀ i<n,f i<=br f n
 |0,_=>⟨kB _,λi h=>AT⟩
 |n+1,h=>by
  have h1:=GG n λi hi=>h i AT;have h2:=h n AT;rw[br];refine⟨AT,λi hi=>?_⟩;by_cases e:i=n
  ·subst e;omega
  ·have:=h1.2 i AT;omega
def wY{f g:Nat->Int}:∀ (n:Nat),(∀ i<n,f i<=g i)->br f n<=br g n
 |0,_=>kB _
 |n+1,h=>by
  have:=wY n λi hi=>h i AT;have:=h n AT;rw[br,br];omega
def aeY{m:ah}{plan:List Int}(hm:VM m)(hp:FP m plan){i:Nat}(hi:i<m.cls.length):bJ (qJ m plan i):=by
 have h:=qH hp hi;have hl:=aE (l:=m.cls) (i:=i) (d:=default) hi;exact BK (hm.qK _ hl _ (aE (l:=m.cls.getD i default) (i:=(plan.getD i 0).toNat) (d:=default) AT))
def Sf{m:ah}{plan:List Int}(hp:FP m plan){i:Nat}(hi:i<m.cls.length):lh plan (S0 m,T0 m) i=ew (qJ m plan i):=by
 have h:=qH hp hi;unfold lh S0;dsimp only;rw[gR _ _ _ hi];unfold dq b7;rw[List.map_map,gR _ _ _ AT];rfl
def Sh{m:ah}{plan:List Int}(hm:VM m)(hp:FP m plan){p:Pr}(dp:gA m p=true):vu m plan p<p.aB.length:=by
 obtain⟨q1,q2,q3,q4,q5⟩:=qI dp;have ha:=qH hp (j:=p.fst.toNat) AT;have hb:=qH hp (j:=p.snd.toNat) AT;have wV:=hm.opt _ (aE (l:=m.cls) (i:=p.fst.toNat) (d:=default) AT);have ry:=hm.opt _ (aE (l:=m.cls) (i:=p.snd.toNat) (d:=default) AT);have nP:=zV ha hb AT AT;unfold vu;omega
def Si{m:ah}{plan:List Int}(hm:VM m)(hp:FP m plan){i:Nat}(hi:i<m.ae.length):lj m plan (S0 m,T0 m) i=ew (mu m plan (m.ae.getD i default)):=by
 have dp:=jG hm.pr _ (aE (l:=m.ae) (i:=i) (d:=default) hi);have nP:=Sh hm hp dp;unfold lj T0;dsimp only;rw[gR _ _ _ hi];unfold dq;rw[gR _ _ _ nP];unfold mu zX vu;rfl
def aeZ{m:ah}{left:List (List Bool)}(hm:VM m)(hf:cp m left){i:Nat}(hi:i<m.ae.length){x y:Int}(hx:0<=x/\x<(m.cls.getD (m.ae.getD i default).fst.toNat default).length)(hy:0<=y/\y<(m.cls.getD (m.ae.getD i default).snd.toNat default).length):
  (gr m left i).getD (x*(m.cls.getD (m.ae.getD i default).snd.toNat default).length+y).toNat false=((left.getD (m.ae.getD i default).fst.toNat default).getD x.toNat false&&(left.getD (m.ae.getD i default).snd.toNat default).getD y.toNat false):=by
 have dp:=jG hm.pr _ (aE (l:=m.ae) (i:=i) (d:=default) hi);unfold gr;generalize m.ae.getD i default=p at *;obtain⟨q1,q2,q3,q4,q5⟩:=qI dp;have wV:=hm.opt _ (aE (l:=m.cls) (i:=p.fst.toNat) (d:=default) AT);have ry:=hm.opt _ (aE (l:=m.cls) (i:=p.snd.toNat) (d:=default) AT);have nP:=zV hx hy AT AT;have f1:=hf.2 p.fst.toNat (by have:=hf.1;omega);have f2:=hf.2 p.snd.toNat (by have:=hf.1;omega);rw[<- f1]at hx nP;rw[<- f2]at hy nP ⊢;generalize left.getD p.fst.toNat default=a at *;generalize left.getD p.snd.toNat default=b at *;obtain⟨x,rfl⟩:=Ol hx.1;obtain⟨y,rfl⟩:=Ol hy.1;have e:((x:Int)*b.length+y).toNat=x*b.length+y:=by
  rw[show((x:Int)*b.length+y)=((x*b.length+y:Nat):Int) by simp,cY]
 have e2:x*b.length+y<a.length*b.length:=by
  have:=nP.2.2;rw[show((x:Int)*b.length+y)=((x*b.length+y:Nat):Int) by simp,show(a.length:Int)*b.length=((a.length*b.length:Nat):Int) by simp]at this;omega
 have FT:y<b.length:=AT;rw[e,BL _ _ _ e2,cY,cY,sq x,Nat.mul_add_div AT,Of FT,Og,E1 FT,iw]
def Sj{m:ah}{plan:List Int}(hp:FP m plan){c:Ct}(hc:iW m c=true):wZ plan c.aZ 0=br (λj=>fj c.aZ (j:Nat) (plan.getD j 0) 0) m.cls.length:=by
 obtain⟨_,_,_,q4⟩:=qL hc;rw[Sk hp.len 0 q4,Sd,zb,hp.len];exact iP _ λj _=>by rw[fc,Sb _ _ q4]
def uz(m:ah)(left:List (List Bool))(plan:List Int):Prop:=∀ i,i<m.cls.length->(left.getD i default).getD (plan.getD i 0).toNat false=true
def BF(m:ah)(left:List (List Bool))(plan:List Int):Prop:=∀ i,i<m.cls.length->∀ j,(left.getD i default).getD j false=decide (j=(plan.getD i 0).toNat)
def least_le{m:ah}{plan:List Int}{left:List (List Bool)}(hm:VM m)(hp:FP m plan)(hf:cp m left)(bR:uz m left plan){c:Ct}(hc:iW m c=true):im left c<=lQ plan c:=by
 obtain⟨_,_,q3,q4⟩:=qL hc;have hw:∀ x∈c.aZ,1<=x.wt/\x.wt<=1000:=λx hx=>(uA q4 x hx).2;refine Sl (rL q3).1 ?_;rw[yr,Sj hp hc,zb,hf.1];refine wY _ λj hj=>?_;have hg:=qH hp hj;have h1:=DC hw (j:Nat) (left.getD j []) 0 (-1) (plan.getD j 0).toNat (bR j hj);have h2:=yq hw (j:Nat) (plan.getD j 0) 0 AT;rw[fc,ss hg.1]at h1;unfold jR;rw[fc];omega
def ae0{m:ah}{plan:List Int}{left:List (List Bool)}(hm:VM m)(hp:FP m plan)(hf:cp m left)(bR:BF m left plan){c:Ct}(hc:iW m c=true):im left c=lQ plan c:=by
 obtain⟨_,_,q3,q4⟩:=qL hc;have hw:∀ x∈c.aZ,1<=x.wt/\x.wt<=1000:=λx hx=>(uA q4 x hx).2;unfold im lQ;congr 1;rw[yr,Sj hp hc,zb,hf.1];refine iP _ λj hj=>?_;have hg:=qH hp hj;have h1:=Se c.aZ (j:Nat) (left.getD j []) 0 (plan.getD j 0).toNat (bR j hj);have h2:=yq hw (j:Nat) (plan.getD j 0) 0 AT;rw[fc,ss hg.1]at h1;unfold jR;rw[fc,h1];omega
def ae1{m:ah}{plan:List Int}{c:Ct}(hc:iW m c=true):bJ (lQ plan c):=GH (rL (qL hc).2.2.1)
def Sm{most s:Int}(h:0<kL most 1099511627776 s):kL most 1099511627776 s=1099511627776:=by
 unfold kL at *;split at h
 ·omega
 ·rename_i h2;rw[if_neg h2];omega
def ae2{m:ah}{plan:List Int}{p:Pr}(h:gA m p=true):bJ (mu m plan p):=GJ h _ _
structure ae3(m:ah)(plan:List Int)(left:List (List Bool))(g:Lg):Prop where
 j8:pz (rK m plan) 0=min (br (qJ m plan) m.cls.length+br (λi=>mu m plan (m.ae.getD i default)) m.ae.length+br (λi=>lQ plan (m.aC.getD i default)) m.aC.length) 1099511627776
 ps:wX m plan g=br (qJ m plan) m.cls.length+br (λi=>mu m plan (m.ae.getD i default)) m.ae.length
 sf:∀ i,i<m.cls.length->(lh plan g i).2=decide (1099511627776<=qJ m plan i)
 tf:∀ i,i<m.ae.length->(lj m plan g i).2=decide (1099511627776<=mu m plan (m.ae.getD i default))
 sl:∀ i,i<m.cls.length->(plan.getD i 0).toNat<(g.1.getD i default).length
 tl:∀ i,i<m.ae.length->vu m plan (m.ae.getD i default)<(g.2.getD i default).length
 a:0<=br (qJ m plan) m.cls.length/\∀ i<m.cls.length,qJ m plan i<=br (qJ m plan) m.cls.length
 b:0<=br (λi=>mu m plan (m.ae.getD i default)) m.ae.length/\∀ i<m.ae.length,mu m plan (m.ae.getD i default)<=br (λi=>mu m plan (m.ae.getD i default)) m.ae.length
 c:0<=br (λi=>lQ plan (m.aC.getD i default)) m.aC.length/\∀ i<m.aC.length,lQ plan (m.aC.getD i default)<=br (λi=>lQ plan (m.aC.getD i default)) m.aC.length
def parts{m:ah}{plan:List Int}(hm:VM m)(hp:FP m plan)(left:List (List Bool))(l:List Mv)(hl:∀ x∈l,il m x=true):ae3 m plan left (iF m l (S0 m,T0 m)):=by
 have fk:=R6 hm hp l _ _ IP (Sn hm) hl;have kl:=GK hm l hl;refine⟨Sp hm hp,?_,λi hi=>?_,λi hi=>?_,λi hi=>?_,λi hi=>?_,GG _ λi hi=>(aeY hm hp hi).1,GG _ λi hi=>(ae2 (jG hm.pr _ (aE hi))).1,GG _ λi hi=>(ae1 (hm.ct _ (aE hi))).1⟩
 ·rw[fk.1];unfold wX;rw[iP m.cls.length λi hi=>by rw[Sf hp hi],iP m.ae.length λi hi=>by rw[Si hm hp hi]];rfl
 ·rw[fk.2.1,Sf hp hi];rfl
 ·rw[fk.2.2,Si hm hp hi];rfl
 ·have:=qH hp hi;rw[kl.sl i hi];omega
 ·rw[kl.tl i hi];exact Sh hm hp (jG hm.pr _ (aE hi))
def ae4{m:ah}{plan:List Int}{left:List (List Bool)}(hm:VM m)(hp:FP m plan)(hf:cp m left)(bR:uz m left plan){i:Nat}(hi:i<m.ae.length):(gr m left i).getD (vu m plan (m.ae.getD i default)) false=true:=by
 have dp:=jG hm.pr _ (aE (l:=m.ae) (i:=i) (d:=default) hi);obtain⟨q1,q2,q3,q4,q5⟩:=qI dp;unfold vu;rw[aeZ hm hf hi (qH hp AT) (qH hp AT),bR _ AT,bR _ AT];rfl
def ae5{m:ah}{plan:List Int}{left:List (List Bool)}(hm:VM m)(hp:FP m plan)(hf:cp m left)(qA:BF m left plan){i:Nat}(hi:i<m.ae.length)(j:Nat):(gr m left i).getD j false=decide (j=vu m plan (m.ae.getD i default)):=by
 have dp:=jG hm.pr _ (aE (l:=m.ae) (i:=i) (d:=default) hi);obtain⟨q1,q2,q3,q4,q5⟩:=qI dp;have g1:=qH hp (j:=(m.ae.getD i default).fst.toNat) AT;have g2:=qH hp (j:=(m.ae.getD i default).snd.toNat) AT;have o1:=qA (m.ae.getD i default).fst.toNat AT;have o2:=qA (m.ae.getD i default).snd.toNat AT;have f1:=hf.2 (m.ae.getD i default).fst.toNat (by have:=hf.1;omega);have f2:=hf.2 (m.ae.getD i default).snd.toNat (by have:=hf.1;omega);unfold gr vu;generalize m.ae.getD i default=p at *;rw[<- f1]at g1;rw[<- f2]at g2 ⊢;generalize left.getD p.fst.toNat default=a at *;generalize left.getD p.snd.toNat default=b at *;generalize plan.getD p.fst.toNat 0=x at *;generalize plan.getD p.snd.toNat 0=y at *;obtain⟨x,rfl⟩:=Ol g1.1;obtain⟨y,rfl⟩:=Ol g2.1;simp only[cY]at o1 o2;have hx:x<a.length:=AT;have hy:y<b.length:=AT;have e:((x:Int)*b.length+y).toNat=x*b.length+y:=by
  rw[show((x:Int)*b.length+y)=((x*b.length+y:Nat):Int) by simp,cY]
 rw[e];by_cases hj:j<a.length*b.length
 ·rw[BL _ _ _ hj,o1,o2,<- Bool.decide_and];have Sr:=Nat.div_add_mod j b.length;have Fq:=Nat.mod_lt j (show 0<b.length by omega);refine decide_eq_decide.2 ⟨λ⟨h1,h2⟩=>?_,λh=>?_⟩
  ·rw[h1,h2,sq]at Sr;exact Sr.symm
  ·rw[h,sq x,Nat.mul_add_div AT,Of hy,Og,E1 hy];exact⟨rfl,rfl⟩
 ·rw[ax,fl (by rw[BM];omega),Option.getD_none,decide_eq_false];intro h;have h3:(x+1)*b.length<=a.length*b.length:=Nat.mul_le_mul_right _ hx;rw[fh,xH]at h3;omega
def ae6{m:ah}{plan:List Int}(hm:VM m)(hp:FP m plan)(left:List (List Bool))(hf:cp m left)(bR:uz m left plan)(l:List Mv)(hl:∀ x∈l,il m x=true):
  kk m left (iF m l (S0 m,T0 m))<=pz (rK m plan) 0:=by
 have P:=parts hm hp left l hl;generalize iF m l (S0 m,T0 m)=g at *;rw[P.j8];have ha:=P.a;have hb:=P.b;have hc:=P.c;have fk:=P.ps;have amz:=Sa m left g;by_cases hF:1099511627776<=br (qJ m plan) m.cls.length+br (λi=>mu m plan (m.ae.getD i default)) m.ae.length+br (λi=>lQ plan (m.aC.getD i default)) m.aC.length
 ·omega
 have e1:∀ i,i<m.cls.length->(pD left g i).2=true/\(pD left g i).1<=(lh plan g i).1:=λi hi=>by
  have:=ha.2 i hi;exact Gz _ _ _ _ (P.sl i hi) (bR i hi) (by show(lh plan g i).2=false;rw[P.sf i hi,decide_eq_false AT])
 have e2:∀ i,i<m.ae.length->(pE m left g i).2=true/\(pE m left g i).1<=(lj m plan g i).1:=λi hi=>by
  have:=hb.2 i hi;exact Gz _ _ _ _ (P.tl i hi) (ae4 hm hp hf bR hi) (by show(lj m plan g i).2=false;rw[P.tf i hi,decide_eq_false AT])
 have e3:∀ i,i<m.aC.length->(mq m left i).2=true/\(mq m left i).1<=lQ plan (m.aC.getD i default):=λi hi=>by
  have h1:=hc.2 i hi;have yu:=hm.ct _ (aE (l:=m.aC) (i:=i) (d:=default) hi);have h2:=least_le hm hp hf bR yu;refine⟨?_,h2⟩;unfold mq;dsimp only;cases hz:(decide ((m.aC.getD i default).cf=1099511627776)&&decide (0<im left (m.aC.getD i default))) with
  |false=>rfl
  |true =>
   exfalso;rw[bg,decide_eq_true_eq,decide_eq_true_eq]at hz;have h3:lQ plan (m.aC.getD i default)=1099511627776:=by
    unfold lQ at h2 ⊢;rw[hz.1]at h2 ⊢;exact Sm AT
   omega
 rw[GD]
 ·have s1:=wY m.cls.length λi hi=>(e1 i hi).2;have s2:=wY m.ae.length λi hi=>(e2 i hi).2;have s3:=wY m.aC.length λi hi=>(e3 i hi).2;unfold BI;unfold wX at fk;omega
 ·rintro(⟨i,hi,h⟩|⟨i,hi,h⟩|⟨i,hi,h⟩)
  ·rw[(e1 i hi).1]at h;cases h
  ·rw[(e2 i hi).1]at h;cases h
  ·rw[(e3 i hi).1]at h;cases h
def Gq{m:ah}{plan:List Int}(hm:VM m)(hp:FP m plan)(left:List (List Bool))(hf:cp m left)(qA:BF m left plan)(l:List Mv)(hl:∀ x∈l,il m x=true):
  kk m left (iF m l (S0 m,T0 m))=pz (rK m plan) 0:=by
 have P:=parts hm hp left l hl;generalize iF m l (S0 m,T0 m)=g at *;rw[P.j8];have ha:=P.a;have hb:=P.b;have hc:=P.c;have fk:=P.ps;have e1:∀ i,i<m.cls.length->pD left g i=if(lh plan g i).2=false then((lh plan g i).1,true) else(0,false):=λi hi =>
  KF _ _ _ _ (P.sl i hi) (qA i hi) rfl
 have e2:∀ i,i<m.ae.length->pE m left g i=if(lj m plan g i).2=false then((lj m plan g i).1,true) else(0,false):=λi hi =>
  KF _ _ _ _ (P.tl i hi) (ae5 hm hp hf qA hi) rfl
 have e3:∀ i,i<m.aC.length->im left (m.aC.getD i default)=lQ plan (m.aC.getD i default):=λi hi =>
  ae0 hm hp hf qA (hm.ct _ (aE hi))
 by_cases hN:GC m left g
 ·rw[R9 hN];rcases hN with⟨i,hi,h⟩|⟨i,hi,h⟩|⟨i,hi,h⟩
  ·rw[e1 i hi,P.sf i hi]at h;have:=ha.2 i hi;by_cases hx:1099511627776<=qJ m plan i
   ·omega
   ·rw[decide_eq_false hx,if_pos rfl]at h;cases h
  ·rw[e2 i hi,P.tf i hi]at h;have:=hb.2 i hi;by_cases hx:1099511627776<=mu m plan (m.ae.getD i default)
   ·omega
   ·rw[decide_eq_false hx,if_pos rfl]at h;cases h
  ·have h1:=hc.2 i hi;unfold mq at h;dsimp only at h;rw[e3 i hi,Bool.not_eq_false',bg,decide_eq_true_eq,decide_eq_true_eq]at h;have h3:lQ plan (m.aC.getD i default)=1099511627776:=by
    obtain⟨h4,h5⟩:=h;unfold lQ at h5 ⊢;rw[h4]at h5 ⊢;exact Sm h5
   omega
 ·rw[GD hN];congr 1;rw[<- fk];unfold BI wX;congr 1
  ·congr 1
   ·refine iP _ λi hi=>?_;rw[e1 i hi];split
    ·rfl
    ·rename_i h;exact absurd (.inl ⟨i,hi,by rw[e1 i hi,if_neg h]⟩) hN
   ·refine iP _ λi hi=>?_;rw[e2 i hi];split
    ·rfl
    ·rename_i h;exact absurd (.inr (.inl ⟨i,hi,by rw[e2 i hi,if_neg h]⟩)) hN
  ·exact iP _ λi hi=>e3 i hi
def GL:∀ (l:List Nm) (t:List Bool) (b:Int×Bool),cI l t b=b\/∃ i,i<l.length/\t.getD i false=true/\(l.getD i default).2=false/\cI l t b=((l.getD i default).1,true)
 |[],t,b=>.inl (by cases t<;>rfl)
 |p::r,[],b=>.inl rfl
 |p::r,is::t,b=>by
  rw[cI];split
  ·rename_i hc;rcases GL r t (p.1,true) with h|⟨i,h1,h2,h3,h4⟩
   ·exact .inr ⟨0,IM,by simpa using hc.1,by simpa using hc.2.1,by rw[h];simp⟩
   ·exact .inr ⟨i+1,by simpa using h1,by simpa using h2,by simpa using h3,by rw[h4];simp⟩
  ·rcases GL r t b with h|⟨i,h1,h2,h3,h4⟩
   ·exact .inl h
   ·exact .inr ⟨i+1,by simpa using h1,by simpa using h2,by simpa using h3,by rw[h4];simp⟩
def Ss{l:List Nm}{s t:List Bool}(h:∀ j,t.getD j false=true->s.getD j false=true)(h2:(cI l t (0,false)).2=true):(cI l s (0,false)).2=true/\(cI l s (0,false)).1<=(cI l t (0,false)).1:=by
 rcases GL l t (0,false) with h3|⟨i,h1,h3,h4,h5⟩
 ·rw[h3]at h2;cases h2
 ·rw[h5];exact Gz l s _ i h1 (h i h3) h4
def ae7{l:List Nm}{t:List Bool}(h2:(cI l t (0,false)).2=true):∃i,t.getD i false=true:=by
 rcases GL l t (0,false) with h3|⟨i,h1,h3,h4,h5⟩
 ·rw[h3]at h2;cases h2
 ·exact⟨i,h3⟩
def GM(l:List Ld)(c:Int):∀ (row:List Bool) (o:Nat) (b:Int),dD l c o row b=b\/∃ i,row.getD i false=true/\dD l c o row b=fj l c (o+i:Nat) 0
 |[],_,_=>.inl rfl
 |is::r,o,b=>by
  rw[dD];split
  ·rename_i hc;rcases GM l c r (o+1) (fj l c o 0) with h|⟨i,h1,h2⟩
   ·exact .inr ⟨0,by simpa using hc.1,by rw[h];rfl⟩
   ·exact .inr ⟨i+1,by simpa using h1,by rw[h2,show o+1+i=o+(i+1) by omega]⟩
  ·rcases GM l c r (o+1) b with h|⟨i,h1,h2⟩
   ·exact .inl h
   ·exact .inr ⟨i+1,by simpa using h1,by rw[h2,show o+1+i=o+(i+1) by omega]⟩
def KH{l:List Ld}(h:∀ x∈l,1<=x.wt/\x.wt<=1000)(c:Int):∀ (row:List Bool) (o:Nat) (b:Int) (i:Nat),row.getD i false=true->0<=dD l c o row b
 |[],_,b,i,hi=>by simp at hi
 |is::r,o,b,0,hi=>by
  rw[iv]at hi;have hw:=yq h c o 0 AT;rw[dD];split
  ·exact(BJ h c r (o+1) _ hw.1).1
  ·rename_i hc;have hb:0<=b:=by
    rcases IT b 0 with h2|h2
    ·exact absurd ⟨hi,.inl h2⟩ hc
    ·exact h2
   exact(BJ h c r (o+1) b hb).1
 |is::r,o,b,i+1,hi=>by
  rw[fq]at hi;rw[dD];exact KH h c r (o+1) _ i hi
def ae8{l:List Ld}(h:∀ x∈l,1<=x.wt/\x.wt<=1000){c:Int}{s t:List Bool}(hs:∀ j,t.getD j false=true->s.getD j false=true)(ht :∃j,t.getD j false=true):jR l c s<=jR l c t:=by
 obtain⟨j,hj⟩:=ht;have h1:=KH h c t 0 (-1) j hj;unfold jR;rcases GM l c t 0 (-1) with h2|⟨i,h2,h3⟩
 ·omega
 ·have:=DC h c s 0 (-1) i (hs i h2);omega
def KI(y x:List (List Bool)):Prop:=∀ i j,(y.getD i default).getD j false=true->(x.getD i default).getD j false=true
def ae9{m:ah}(hm:VM m){x y:List (List Bool)}(hx:cp m x)(hy:cp m y)(h:KI y x){i:Nat}(hi:i<m.ae.length)(j:Nat)(hj:(gr m y i).getD j false=true):(gr m x i).getD j false=true:=by
 have dp:=jG hm.pr _ (aE (l:=m.ae) (i:=i) (d:=default) hi);obtain⟨q1,q2,q3,q4,q5⟩:=qI dp;have a1:=hx.2 (m.ae.getD i default).fst.toNat (by have:=hx.1;omega);have a2:=hx.2 (m.ae.getD i default).snd.toNat (by have:=hx.1;omega);have b1:=hy.2 (m.ae.getD i default).fst.toNat (by have:=hy.1;omega);have b2:=hy.2 (m.ae.getD i default).snd.toNat (by have:=hy.1;omega);have s1:=h (m.ae.getD i default).fst.toNat;have s2:=h (m.ae.getD i default).snd.toNat;unfold gr at *;generalize y.getD (m.ae.getD i default).fst.toNat default=ya at *;generalize y.getD (m.ae.getD i default).snd.toNat default=yb at *;generalize x.getD (m.ae.getD i default).fst.toNat default=xa at *;generalize x.getD (m.ae.getD i default).snd.toNat default=xb at *;by_cases aS:j<ya.length*yb.length
 ·rw[BL _ _ _ aS,bg]at hj;rw[BL _ _ _ (by rw[a1,a2,<- b1,<- b2];exact aS),a2,<- b2,s1 _ hj.1,s2 _ hj.2];rfl
 ·rw[ax,fl (by rw[BM];omega)]at hj;cases hj
def ae'{m:ah}(hm:VM m){x y:List (List Bool)}(hx:cp m x)(hy:cp m y)(h:KI y x)(g:Lg):kk m x g<=kk m y g:=by
 by_cases hn:GC m y g
 ·rw[R9 hn];exact Sa m x g
 have e1:∀ i,i<m.cls.length->(pD y g i).2=true:=λi hi=>by
  cases hz:(pD y g i).2 with
  |true=>rfl
  |false=>exact absurd (.inl ⟨i,hi,hz⟩) hn
 have e2:∀ i,i<m.ae.length->(pE m y g i).2=true:=λi hi=>by
  cases hz:(pE m y g i).2 with
  |true=>rfl
  |false=>exact absurd (.inr (.inl ⟨i,hi,hz⟩)) hn
 have e3:∀ i,i<m.aC.length->(mq m y i).2=true:=λi hi=>by
  cases hz:(mq m y i).2 with
  |true=>rfl
  |false=>exact absurd (.inr (.inr ⟨i,hi,hz⟩)) hn
 have f1:∀ i,i<m.cls.length->(pD x g i).2=true/\(pD x g i).1<=(pD y g i).1:=λi hi=>Ss (h i) (e1 i hi);have f2:∀ i,i<m.ae.length->(pE m x g i).2=true/\(pE m x g i).1<=(pE m y g i).1:=λi hi=>Ss (ae9 hm hx hy h hi) (e2 i hi);have f3:∀ i,i<m.aC.length->im x (m.aC.getD i default)<=im y (m.aC.getD i default):=λi hi=>by
  obtain⟨_,_,q3,q4⟩:=qL (hm.ct _ (aE (l:=m.aC) (i:=i) (d:=default) hi));have hw:∀ z∈(m.aC.getD i default).aZ,1<=z.wt/\z.wt<=1000:=λz hz=>(uA q4 z hz).2;refine Sl (rL q3).1 ?_;rw[yr,yr,hx.1,hy.1];have:=wY (f:=λj=>jR (m.aC.getD i default).aZ (0+j:Nat) (x.getD j [])) (g:=λj=>jR (m.aC.getD i default).aZ (0+j:Nat) (y.getD j [])) m.cls.length λj hj=>ae8 hw (h j) (ae7 (e1 j hj));omega
 have f4:∀ i,i<m.aC.length->(mq m x i).2=true:=λi hi=>by
  have h1:=e3 i hi;have h2:=f3 i hi;unfold mq at h1 ⊢;dsimp only at h1 ⊢;rw[kz,Bool.and_eq_false_iff,decide_eq_false_iff_not,decide_eq_false_iff_not]at h1 ⊢;rcases h1 with h1|h1
  ·exact .inl h1
  ·exact .inr AT
 rw[GD hn,GD]
 ·have s1:=wY m.cls.length λi hi=>(f1 i hi).2;have s2:=wY m.ae.length λi hi=>(f2 i hi).2;have s3:br (λi=>(mq m x i).1) m.aC.length<=br (λi=>(mq m y i).1) m.aC.length:=wY m.aC.length λi hi=>f3 i hi;unfold BI;omega
 ·rintro(⟨i,hi,hz⟩|⟨i,hi,hz⟩|⟨i,hi,hz⟩)
  ·rw[(f1 i hi).1]at hz;cases hz
  ·rw[(f2 i hi).1]at hz;cases hz
  ·rw[f4 i hi]at hz;cases hz
def oE:List Int->List Bool->Int->Int
 |x::r,b::s,n=>oE r s (if b=true then min n x else n)
 |_,_,n=>n
def GN(aB:List Int)(w i:Nat)(a:Bool):Nat->List Bool->Int->Int
 |_,[],n=>n
 |k,b::r,n=>GN aB w i a (k+1) r (if a=true/\b=true then min n (aB.getD (i*w+k) 0) else n)
def GO(aB:List Int)(w:Nat)(rb:List Bool):Nat->List Bool->Int->Int
 |_,[],n=>n
 |i,a::r,n=>GO aB w rb (i+1) r (GN aB w i a 0 rb n)
def GP(m:ah)(left:List (List Bool))(p:Pr):Int:=GO p.aB (m.cls.getD p.snd.toNat default).length (left.getD p.snd.toNat default) 0 (left.getD p.fst.toNat default) 1099511627776
def vw:List Bool->Int->Int
 |[],n=>n
 |b::r,n=>vw r (if b=true then n+1 else n)
def oF(c:Int)(row:List Bool):List Ld->Int×Int->Int×Int
 |[],z=>z
 |x::r,z=>oF c row r (if x.cls=c/\row.getD x.opt.toNat false=true then(z.1-1,if z.2<0\/x.wt<z.2 then x.wt else z.2) else z)
def yv(l:List Ld)(c:Int)(row:List Bool):Int:=if 0<(oF c row l (vw row 0,-1)).1\/(oF c row l (vw row 0,-1)).2<0 then 0 else(oF c row l (vw row 0,-1)).2
def BN(l:List Ld)(left:List (List Bool)):Option Int->List Ld->Int->Int
 |_,[],n=>n
 |q,x::r,n=>BN l left (some x.cls) r (if q=some x.cls then n else n+yv l x.cls (left.getD x.cls.toNat default))
def Su(n cf:Int):Int:=if 0<n/\cf=1099511627776 then 1099511627776 else min (n*cf) 1099511627776
def DD(left:List (List Bool))(c:Ct):Int:=Su (max (BN c.aZ left none c.aZ (-c.most)) 0) c.cf
def GQ(left:List (List Bool)):Nat->List (List cP)->Int->Option Int
 |_,[],n=>some n
 |i,c::r,n=>if oE (b7 c) (left.getD i default) 1099511627776=1099511627776 then none else GQ left (i+1) r (n+oE (b7 c) (left.getD i default) 1099511627776)
def DE(m:ah)(left:List (List Bool)):List Pr->Int->Option Int
 |[],n=>some n
 |p::r,n=>if GP m left p=1099511627776 then none else DE m left r (n+GP m left p)
def DF(left:List (List Bool)):List Ct->Int->Option Int
 |[],n=>some n
 |c::r,n=>if DD left c=1099511627776 then none else DF left r (n+DD left c)
def DG:Option Int->Int
 |none=>1099511627776
 |some n=>min n 1099511627776
def DH(m:ah)(left:List (List Bool)):Option Int->Option Int
 |none=>none
 |some n=>DF left m.aC n
def GR(m:ah)(left:List (List Bool)):Option Int->Option Int
 |none=>none
 |some n=>DE m left m.ae n
def BG(m:ah)(left:List (List Bool)):Int:=DG (DH m left (GR m left (GQ left 0 m.cls 0)))
def vz(q:Int×Bool):Int:=if q.2=true then q.1 else 1099511627776
def KJ:∀ (l:List Int) (s:List Bool) (b:Int×Bool),(∀ x∈l,bJ x)->(b.2=true->b.1<1099511627776) ->
  vz (cI (dq l) s b)=oE l s (vz b)/\((cI (dq l) s b).2=true->(cI (dq l) s b).1<1099511627776)
 |[],s,b,_,hb=>⟨by cases s<;>rfl,hb⟩
 |x::r,[],b,_,hb=>⟨rfl,hb⟩
 |x::r,is::s,b,h,hb=>by
  have hx:=h x IM;unfold bJ at hx;rw[show dq (x::r)=ew x::dq r from rfl,cI,oE];have key:vz (if is=true/\(ew x).2=false/\(b.2=false\/(ew x).1<b.1) then((ew x).1,true) else b)=(if is=true then min (vz b) x else vz b):=by
   obtain⟨b1,b2⟩:=b;unfold ew vz;dsimp only at hb ⊢;cases is<;>cases b2<;>simp at hb ⊢<;>(repeat' split)<;>simp_all<;>omega
  have:=KJ r s (if is=true/\(ew x).2=false/\(b.2=false\/(ew x).1<b.1) then((ew x).1,true) else b) (λy hy=>h y (by simp[hy])) (by
   split
   ·rename_i hc;intro _;have:=hc.2.1;unfold ew at this ⊢;simp at this;exact this
   ·exact hb)
  rw[key]at this;exact this
def Sv:∀ (l:List Int) (s t:List Bool) (n:Int),s.length<=l.length->oE l (s++t) n=oE (l.drop s.length) t (oE l s n)
 |l,[],t,n,_=>by cases l<;>rfl
 |[],b::s,t,n,h=>by simp at h
 |x::r,b::s,t,n,h=>by
  rw[List.cons_append,oE,oE,cX,List.drop_succ_cons];exact Sv r s t _ (by simpa using h)
def Sw(aB:List Int)(w i:Nat)(a:Bool):∀ (r:List Bool) (k:Nat) (n:Int),i*w+k+r.length<=aB.length->GN aB w i a k r n=oE (aB.drop (i*w+k)) (r.map (a && ·)) n
 |[],k,n,_=>by cases(aB.drop (i*w+k))<;>rfl
 |b::r,k,n,h=>by
  have aS:i*w+k<aB.length:=by simp at h;omega
  have hd:aB.drop (i*w+k)=aB.getD (i*w+k) 0::aB.drop (i*w+(k+1)):=by
   rw[List.drop_eq_getElem_cons aS,ax,List.getElem?_eq_getElem aS];rfl
  rw[GN,hd,fP,oE,Sw aB w i a r (k+1) _ (by simp at h;omega)];congr 1;cases a<;>cases b<;>simp
def Sx(aB:List Int)(w:Nat)(rb:List Bool)(hw:rb.length=w):∀ (r:List Bool) (i:Nat) (n:Int),i*w+r.length*w<=aB.length->GO aB w rb i r n=oE (aB.drop (i*w)) (qM r rb) n
 |[],i,n,_=>by show n=oE _ [] n;cases(aB.drop (i*w))<;>rfl
 |a::r,i,n,h=>by
  have h2:i*w+(r.length+1)*w<=aB.length:=h;rw[fh,xH]at h2;rw[GO,Sw aB w i a rb 0 n AT,Sx aB w rb hw r (i+1) _ (by rw[fh];omega)];show _=oE _ (rb.map (a && ·)++qM r rb) n;rw[Sv _ _ _ _ (by rw[fF,List.length_drop];omega),List.drop_drop,fF,hw,fh,xH];simp only[iw]
def jB:List (Int×Bool)->Int->Option Int
 |[],n=>some n
 |p::r,n=>if p.2=false then none else jB r (n+p.1)
def GS:∀ (l:List (Int×Bool)) (n:Int),jB l n=if(bK l (n,false)).2=true then none else some (bK l (n,false)).1
 |[],n=>rfl
 |p::r,n=>by
  rw[jB];obtain⟨a,b⟩:=p;cases b
  ·show none=if(bK r (n+a,true)).2=true then none else _;rw[DI,if_pos rfl]
  ·exact GS r (n+a)
def Sy{m:ah}(hm:VM m)(left:List (List Bool)):∀ (k i:Nat) (n:Int),i+k=m.cls.length->GQ left i (m.cls.drop i) n=jB ((nr i k).map λj=>cI ((S0 m).getD j default) (left.getD j default) (0,false)) n
 |0,i,n,h=>by rw[jv AT];rfl
 |k+1,i,n,h=>by
  have hi:i<m.cls.length:=AT;have hs:(S0 m).getD i default=dq (b7 (m.cls.getD i default)):=by rw[S0,gR _ _ _ hi]
  have h2:=KJ (b7 (m.cls.getD i default)) (left.getD i default) (0,false) (λx hx=>by
   obtain⟨o,ho,rfl⟩:=List.mem_map.1 hx;exact BK (hm.qK _ (aE hi) o ho)) IM
  rw[show vz (0,false)=1099511627776 from rfl]at h2;rw[kh m.cls i default hi,GQ,xG,fP,jB,Sy hm left k (i+1) _ AT,hs,<- h2.1];generalize cI (dq (b7 (m.cls.getD i default))) (left.getD i default) (0,false)=q at *;obtain⟨a,b⟩:=q;unfold vz at *;cases b<;>simp at h2 ⊢;intro e;omega
def Sz{m:ah}(hm:VM m){left:List (List Bool)}(hf:cp m left):∀ (k i:Nat) (n:Int),i+k=m.ae.length->DE m left (m.ae.drop i) n=jB ((nr i k).map λj=>cI ((T0 m).getD j default) (gr m left j) (0,false)) n
 |0,i,n,h=>by rw[jv AT];rfl
 |k+1,i,n,h=>by
  have hi:i<m.ae.length:=AT;have hs:(T0 m).getD i default=dq (m.ae.getD i default).aB:=by rw[T0,gR _ _ _ hi]
  have dp:=jG hm.pr _ (aE (d:=default) hi);obtain⟨_,p1,p2,p3,p4⟩:=qI dp;have f1:=hf.2 (m.ae.getD i default).fst.toNat (by rw[hf.1];omega);have f2:=hf.2 (m.ae.getD i default).snd.toNat (by rw[hf.1];omega);have h2:=KJ (m.ae.getD i default).aB (gr m left i) (0,false) (GU dp) IM;rw[show vz (0,false)=1099511627776 from rfl]at h2;have h3:GP m left (m.ae.getD i default)=oE (m.ae.getD i default).aB (gr m left i) 1099511627776:=by
   unfold GP gr;rw[Sx _ _ _ f2 _ 0 _ (by rw[EU,fc,f1];have:=p4;exact_mod_cast Int.le_of_eq this.symm),EU,y0]
  rw[kh m.ae i default hi,DE,xG,fP,jB,Sz hm hf k (i+1) _ AT,hs,h3,<- h2.1];generalize cI (dq (m.ae.getD i default).aB) (gr m left i) (0,false)=q at *;obtain⟨a,b⟩:=q;unfold vz at *;cases b<;>simp at h2 ⊢;intro e;omega
def SA{f:Nat->Int}:∀ {n:Nat},(∀ i<n,0<=f i)->(0<=br f n/\(0<br f n↔∃ i,i<n/\0<f i))
 |0,_=>by simp[br]
 |n+1,h=>by
  obtain⟨h1,h2⟩:=SA (n:=n) λi hi=>h i AT;have h3:=h n AT;rw[br];refine⟨AT,λh4=>?_,?_⟩
  ·by_cases h5:0<br f n
   ·obtain⟨i,hi,hf⟩:=h2.1 h5;exact⟨i,AT,hf⟩
   ·exact⟨n,AT,AT⟩
  ·rintro⟨i,hi,hf⟩;by_cases e:i=n
   ·subst e;omega
   ·have:=h2.2 ⟨i,AT,hf⟩;omega
def SD(f g:Nat->Int):∀ n,br f n-br g n=br (λi=>f i-g i) n
 |0=>rfl
 |n+1=>by rw[br,br,br,<- SD f g n];omega
def SE:∀ (row:List Bool) (n:Int),vw row n=n+br (λo=>if row.getD o false=true then 1 else 0) row.length
 |[],n=>by simp[vw,br]
 |b::r,n=>by
  rw[vw,SE r,cX,yp];simp only[iv,fq];split<;>omega
def KK{m:ah}{q:Option Ld}{x:Ld}{r:List Ld}(h:eu m q (x::r)=true):eu m (some x) r=true:=by
 cases q<;>rw[eu]at h<;>simp only[bg]at h<;>exact h.2
open Classical in
def SF{m:ah}(c:Int)(row:List Bool):∀ {l:List Ld} {q:Option Ld},eu m q l=true->∀ z:Int×Int,
  (oF c row l z).1=z.1-br (λo=>if row.getD o false=true/\∃ x∈l,x.cls=c/\x.opt=(o:Int) then 1 else 0) row.length
 |[],_,_,z=>by
  rw[iP (g:=λ_=>0) _ λi _=>IM];have:∀ n,br (λ_=>0) n=0:=λn=>by induction n with|zero=>rfl|succ n ih=>rw[br,ih];rfl
  rw[this,oF];omega
 |x::r,q,h,z=>by
  have hr:=KK h;have hx:=(iN.1 (uA h x IM).1).2.2.1;rw[oF,SF c row hr];by_cases hc:x.cls=c/\row.getD x.opt.toNat false=true
  ·rw[if_pos hc];have hk:x.opt.toNat<row.length:=by
    rcases du x.opt.toNat row.length with h'|h'
    ·exact h'
    ·rw[ax,fl h']at hc;simp at hc
   rw[iP (f:=λo=>if row.getD o false=true/\∃ y∈x::r,y.cls=c/\y.opt=(o:Int) then 1 else 0) (g:=λo=>if o=x.opt.toNat then(if row.getD o false=true/\∃ y∈r,y.cls=c/\y.opt=(o:Int) then 1 else 0)+1 else(if row.getD o false=true/\∃ y∈r,y.cls=c/\y.opt=(o:Int) then 1 else 0)) _ λo _=>by
    by_cases e:o=x.opt.toNat
    ·subst e;rw[if_pos ⟨hc.2,x,IM,hc.1,AT⟩,if_pos rfl,if_neg (by rintro⟨_,y,hy,h1,h2⟩;have:=yo hr y hy;omega)];rfl
    ·rw[if_neg e];congr 1;rw[eq_iff_iff];refine and_congr_right λ_=>⟨?_,λ⟨y,hy,h1⟩=>⟨y,by simp[hy],h1⟩⟩;rintro⟨y,hy,h1,h2⟩;rcases bm.1 hy with rfl|hy
     ·omega
     ·exact⟨y,hy,h1,h2⟩,ym,if_pos hk]
   dsimp only;omega
  ·rw[if_neg hc];rw[iP (f:=λo=>if row.getD o false=true/\∃ y∈x::r,y.cls=c/\y.opt=(o:Int) then 1 else 0) (g:=λo=>if row.getD o false=true/\∃ y∈r,y.cls=c/\y.opt=(o:Int) then 1 else 0) _ λo _=>by
    congr 1;rw[eq_iff_iff];refine and_congr_right λw0=>⟨?_,λ⟨y,hy,h1⟩=>⟨y,by simp[hy],h1⟩⟩;rintro⟨y,hy,h1,h2⟩;rcases bm.1 hy with rfl|hy
    ·exact absurd ⟨h1,by rw[h2,cY];exact w0⟩ hc
    ·exact⟨y,hy,h1,h2⟩]
def SG(c:Int)(row:List Bool):∀ {l:List Ld},(∀ x∈l,1<=x.wt)->∀ z:Int×Int,
  (∀ x∈l,x.cls=c/\row.getD x.opt.toNat false=true->0<=(oF c row l z).2/\(oF c row l z).2<=x.wt)/\(0<=z.2->0<=(oF c row l z).2/\(oF c row l z).2<=z.2) /\
   ((oF c row l z).2=z.2\/∃ x∈l,(x.cls=c/\row.getD x.opt.toNat false=true)/\(oF c row l z).2=x.wt)
 |[],_,z=>⟨IM,λh=>⟨h,kB _⟩,.inl rfl⟩
 |x::r,h,z=>by
  obtain⟨h1,h2,h3⟩:=SG c row (l:=r) (λy hy=>h y (by simp[hy])) (if x.cls=c/\row.getD x.opt.toNat false=true then(z.1-1,if z.2<0\/x.wt<z.2 then x.wt else z.2) else z);have hx:=h x IM;rw[oF];generalize oF c row r _=w at *;by_cases hc:x.cls=c/\row.getD x.opt.toNat false=true
  ·rw[if_pos hc]at h2 h3;dsimp only at h2 h3;refine⟨λy hy zB=>?_,λhz=>?_,?_⟩
   ·rcases bm.1 hy with rfl|hy
    ·split at h2<;>omega
    ·exact h1 y hy zB
   ·split at h2<;>omega
   ·rcases h3 with h3|⟨y,hy,h3⟩
    ·split at h3
     ·exact .inr ⟨x,IM,hc,h3⟩
     ·exact .inl h3
    ·exact .inr ⟨y,by simp[hy],h3⟩
  ·rw[if_neg hc]at h2 h3;refine⟨λy hy zB=>?_,h2,?_⟩
   ·rcases bm.1 hy with rfl|hy
    ·exact absurd zB hc
    ·exact h1 y hy zB
   ·rcases h3 with h3|⟨y,hy,h3⟩
    ·exact .inl h3
    ·exact .inr ⟨y,by simp[hy],h3⟩
def KL{m:ah}:∀ {l:List Ld} {q:Option Ld},eu m q l=true->∀ x∈l,∀ w,fj l x.cls x.opt w=x.wt
 |[],_,_,x,hx,w=>by simp at hx
 |y::r,q,h,x,hx,w=>by
  have hr:=KK h;rw[fj];rcases bm.1 hx with rfl|hx
  ·rw[if_pos ⟨rfl,rfl⟩];exact GF r _ _ _ λz hz he=>by have:=yo hr z hz;omega
  ·exact KL hr x hx _
open Classical in
def afa{m:ah}{l:List Ld}{q:Option Ld}(hl:eu m q l=true)(c:Int)(row:List Bool):yv l c row=jR l c row:=by
 have hw:∀ x∈l,1<=x.wt/\x.wt<=1000:=λx hx=>(uA hl x hx).2;have h1:=SF c row hl (vw row 0,-1);obtain⟨h2,_,h3⟩:=SG c row (λx hx=>(hw x hx).1) (vw row 0,-1);unfold yv;generalize oF c row l (vw row 0,-1)=z at *;rw[SE,zb,SD]at h1;obtain⟨h4,h5⟩:=SA (f:=λi=>(if row.getD i false=true then(1:Int) else 0)-if row.getD i false=true/\∃ x∈l,x.cls=c/\x.opt=(i:Int) then 1 else 0) (n:=row.length) λi _=>by
  (repeat' split)<;>simp_all
 rw[<- h1]at h4 h5;have hlen:∀ i,row.getD i false=true->i<row.length:=λi h'=>by
  rcases du i row.length with h6|h6
  ·exact h6
  ·rw[ax,fl h6]at h';simp at h'
 have lR:∀ x∈l,0<=x.opt:=λx hx=>(iN.1 (uA hl x hx).1).2.2.1;by_cases hex :∃o,row.getD o false=true/\¬∃x∈l,x.cls=c/\x.opt=(o:Int)
 ·obtain⟨o,ho,qo⟩:=hex;rw[if_pos (.inl (h5.2 ⟨o,hlen o ho,by rw[if_pos ho,if_neg (by rintro⟨_,h'⟩;exact qo h')];decide⟩))];have h6:=DC hw c row 0 (-1) o ho;rw[fc,GF l c o 0 λy hy he=>qo ⟨y,hy,he⟩]at h6;unfold jR;omega
 have eT:∀ o,row.getD o false=true->∃ x∈l,x.cls=c/\x.opt=(o:Int):=λo ho=>Classical.byContradiction λh'=>hex ⟨o,ho,h'⟩;have hz:¬ 0<z.1:=λh'=>by
  obtain⟨i,hi,h6⟩:=h5.1 h';by_cases hr:row.getD i false=true
  ·rw[if_pos hr,if_pos ⟨hr,eT i hr⟩]at h6;omega
  ·rw[if_neg hr,if_neg (λh7=>hr h7.1)]at h6;omega
 by_cases w5 :∃o,row.getD o false=true
 ·obtain⟨o,ho⟩:=w5;obtain⟨x,hx,uk,vv⟩:=eT o ho;obtain⟨g1,g2⟩:=h2 x hx ⟨uk,by rw[vv,cY];exact ho⟩;rw[if_neg AT];have g3:=KH hw c row 0 (-1) o ho;unfold jR;rw[Int.max_eq_left g3];refine Int.le_antisymm ?_ ?_
  ·rcases GM l c row 0 (-1) with e|⟨i,hi,e⟩
   ·omega
   ·obtain⟨y,hy,qz,SH⟩:=eT i hi;rw[e,fc,<- SH,<- qz,KL hl y hy];exact(h2 y hy ⟨qz,by rw[SH,cY];exact hi⟩).2
  ·rcases h3 with e|⟨y,hy,⟨qz,KM⟩,e⟩
   ·dsimp only at e;omega
   ·have h6:=DC hw c row 0 (-1) _ KM;rw[fc,ss (lR y hy),<- qz,KL hl y hy]at h6;rw[<- qz];omega
 ·have e:z.2 = -1:=by
   rcases h3 with e|⟨y,hy,⟨qz,KM⟩,e⟩
   ·exact e
   ·exact absurd ⟨_,KM⟩ w5
  rw[if_pos (.inr AT),jR,KG l c row 0 (-1) λi=>by
   cases h':row.getD i false with
   |false=>rfl
   |true=>exact absurd ⟨i,h'⟩ w5]
  rfl
open Classical in
def SI{m:ah}(L:List Ld)(left:List (List Bool)){N:Nat}(hN:m.cls.length<=N):∀ {r:List Ld} {q:Option Ld},eu m q r=true->∀ n:Int,
  BN L left (q.map (·.cls)) r n=n+br (λj=>if(∃ x∈r,x.cls=(j:Int))/\q.map (·.cls)≠some (j:Int) then yv L j (left.getD j default) else 0) N
 |[],_,_,n=>by
  rw[iP (g:=λ_=>0) _ λi _=>IM];have:∀ n,br (λ_=>0) n=0:=λn=>by induction n with|zero=>rfl|succ n ih=>rw[br,ih];rfl
  rw[this,BN];omega
 |x::r,q,h,n=>by
  have hr:=KK h;obtain⟨hx0,SJ,_⟩:=iN.1 (uA h x IM).1;have h0:=SI L left hN hr;simp only[gF]at h0;rw[BN,h0];by_cases hq:q.map (·.cls)=some x.cls
  ·rw[if_pos hq,hq];congr 1;refine iP _ λj _=>?_;congr 1;rw[eq_iff_iff];simp only[ne_eq,cy.injEq];refine and_congr_left λhj=>⟨λ⟨y,hy,e⟩=>⟨y,by simp[hy],e⟩,?_⟩;rintro⟨y,hy,e⟩;rcases bm.1 hy with rfl|hy
   ·exact absurd e hj
   ·exact⟨y,hy,e⟩
  ·rw[if_neg hq,iP (f:=λj=>if(∃ y∈x::r,y.cls=(j:Int))/\q.map (·.cls)≠some (j:Int) then yv L j (left.getD j default) else 0)
    (g:=λj=>if j=x.cls.toNat then(if(∃ y∈r,y.cls=(j:Int))/\some x.cls≠some (j:Int) then yv L j (left.getD j default) else 0)+yv L x.cls (left.getD x.cls.toNat default) else(if(∃ y∈r,y.cls=(j:Int))/\some x.cls≠some (j:Int) then yv L j (left.getD j default) else 0)) _ λj _=>by
    have GV:((x.cls.toNat:Nat):Int)=x.cls:=ss hx0;by_cases e:j=x.cls.toNat
    ·subst e;rw[if_pos ⟨⟨x,IM,GV.symm⟩,by rw[GV];exact hq⟩,if_pos rfl,if_neg (by rw[GV];simp),GV];omega
    ·rw[if_neg e];congr 1;rw[eq_iff_iff];constructor
     ·rintro⟨⟨y,hy,KO⟩,_⟩;rcases bm.1 hy with rfl|hy
      ·omega
      ·exact⟨⟨y,hy,KO⟩,by simp only[ne_eq,cy.injEq];omega⟩
     ·rintro⟨⟨y,hy,KO⟩,_⟩;refine⟨⟨y,by simp[hy],KO⟩,λSK=>?_⟩;cases q with
      |none=>simp at SK
      |some q =>
       have h6:=yo h y (by simp[hy]);have h7:=yo h x IM;have h8:=yo hr y hy;simp only[gF,cy.injEq]at SK hq;omega,ym,if_pos AT]
   omega
def afb{m:ah}(hm:VM m){left:List (List Bool)}(hf:cp m left){c:Ct}(hc:iW m c=true):
  DD left c=im left c/\(DD left c=1099511627776↔(decide (c.cf=1099511627776)&&decide (0<im left c))=true):=by
 obtain⟨_,q2,q3,q4⟩:=qL hc;have hw:∀ x∈c.aZ,1<=x.wt/\x.wt<=1000:=λx hx=>(uA q4 x hx).2;have hs:BN c.aZ left none c.aZ (-c.most) = -c.most+jS c.aZ 0 left 0:=by
  have:=SI (m:=m) c.aZ left (Nat.le_refl _) (q:=none) q4 (-c.most);rw[Option.map_none]at this;rw[this,yr,zb,hf.1];congr 1;refine iP _ λj _=>?_;rw[fc];split
  ·exact afa q4 _ _
  ·rename_i hn;rw[SL λx hx e=>hn ⟨⟨x,hx,e⟩,IM⟩]
 have hr:=DJ hw left;have KP:=hm.cls;rw[hf.1]at hr;unfold DD im;rw[hs];generalize jS c.aZ 0 left 0=s at *;unfold Su kL;unfold jo at q3;rw[decide_eq_true_eq]at q3;by_cases h0:s<=c.most
 ·rw[Int.max_eq_right AT,if_neg AT,if_pos h0];simp<;>omega
 rw[Int.max_eq_left AT,if_neg h0,show -c.most+s=s-c.most by omega];rcases q3 with q3|q3
 ·rw[if_neg AT];have h1:(s-c.most)*c.cf<=24000*1048576:=Int.mul_le_mul AT AT AT AT;refine⟨rfl,?_⟩;rw[decide_eq_false (by omega:¬ c.cf=1099511627776),Bool.false_and];constructor
  ·intro h;omega
  ·intro h;simp at h
 ·rw[q3,if_pos ⟨AT,rfl⟩,show min ((s-c.most)*1099511627776) 1099511627776=(1099511627776:Int) by omega];simp
def SM{m:ah}(hm:VM m){left:List (List Bool)}(hf:cp m left):∀ (k i:Nat) (n:Int),i+k=m.aC.length->DF left (m.aC.drop i) n=jB ((nr i k).map λj=>mq m left j) n
 |0,i,n,h=>by rw[jv AT];rfl
 |k+1,i,n,h=>by
  have hi:i<m.aC.length:=AT;obtain⟨h1,h2⟩:=afb hm hf (hm.ct _ (aE (d:=default) hi));rw[kh m.aC i default hi,DF,xG,fP,jB,SM hm hf k (i+1) _ AT];unfold mq;dsimp only;rw[h1]at h2 ⊢;by_cases h3:im left (m.aC.getD i default)=1099511627776
  ·rw[if_pos h3,h2.1 h3];rfl
  ·rw[if_neg h3];cases hb:(decide ((m.aC.getD i default).cf=1099511627776)&&decide (0<im left (m.aC.getD i default))) with
   |true=>exact absurd (h2.2 hb) h3
   |false=>rfl
def RY{m:ah}(hm:VM m){left:List (List Bool)}(hf:cp m left):BG m left=kk m left (S0 m,T0 m):=by
 have h1:=Sy hm left m.cls.length 0 0 AT;have h2:=λn=>Sz hm hf m.ae.length 0 n AT;have h3:=λn=>SM hm hf m.aC.length 0 n AT;simp only[y0,<- List.range_eq_range']at h1 h2 h3;unfold BG kk;rw[h1];show DG (DH m left (GR m left (jB (PC left (S0 m) m.cls.length) 0)))=_;have h2':∀ n,DE m left m.ae n=jB (PP m left (T0 m) m.ae.length) n:=h2;have KQ:∀ n,DF left m.aC n=jB (PK m left m.aC.length) n:=h3;rw[GS];generalize bK (PC left (S0 m) m.cls.length) (0,false)=z;obtain⟨a,b⟩:=z;cases b
 ·simp only[GR,h2',GS,iZ,if_false];generalize bK (PP m left (T0 m) m.ae.length) (a,false)=z;obtain⟨a2,b2⟩:=z;cases b2
  ·simp only[DH,KQ,GS,iZ,if_false];generalize bK (PK m left m.aC.length) (a2,false)=z;obtain⟨a3,b3⟩:=z;cases b3<;>simp[DG]
  ·simp only[if_true,DH,DG,DI]
 ·simp only[if_true,GR,DH,DG];have:∀ l n,(bK l (n,true))=((bK l (n,true)).1,true):=λl n=>Prod.ext rfl (DI l n);rw[this,this (PK m left m.aC.length)];rfl
end T

