import Derived.Test.YtfoopmojjjpapaaGreatX13
set_option linter.all false
set_option maxHeartbeats 0
set_option maxRecDepth 20000
open List renaming getD_eq_getElem?_getD→az,getElem?_set→bU,getElem?_set_ne→fN,getD_cons_zero→gA,getD_cons_succ→eS,range→aY,length_cons→cV,getElem?_eq_none→fY,map_cons→fF,length_map→eu,range'→nq,drop_eq_nil_of_le→j9,range'_succ→xJ,drop_zero→AP,mem_cons→a8
open Option renaming getD_some→pQ,map_some→im,some→cy
open Int renaming mul_le_mul_of_nonneg_right→Fq,one_mul→O5,toNat_natCast→cF,toNat_of_nonneg→u5,le_refl→mP,lt_or_le→Fw,eq_ofNat_of_zero_le→Fy,zero_add→y8
open Bool renaming and_eq_true→a7,false_eq_true→jd
open Nat renaming add_zero→il,mul_comm→pT,div_eq_of_lt→OW,mul_add_mod→OX,mod_eq_of_lt→CV,zero_add→gq,add_mul→eT,one_mul→uU,zero_mul→Fk,lt_or_ge→dw
open Go Go.Am
namespace T
def ace(r:List Nm)(i q:Nat)(a:Int)(hi:i<r.length):(jz r i a).getD q default=if i=q then((r.getD q default).1+a,(r.getD q default).2) else r.getD q default:=by
 unfold jz;by_cases h:i=q
 ·subst h;rw[if_pos rfl];simp only[az,bU,hi,if_true,pQ]
 ·rw[if_neg h];simp only[az,fN h]
def acf(r:List Nm){i q:Nat}(a:Int)(h:i≠q):(jz r i a).getD q default=r.getD q default:=by
 unfold jz;simp only[az,fN h]
def Iy{f:Nat->Nat}{a:Int}{t:List Nm}{q:Nat}:∀ k:Nat,(∀ j,j<k->f j≠q)->(gz f a k t).getD q default=t.getD q default
 |0,_=>rfl
 |k+1,h=>by rw[gz,acf _ _ (h k CZ),Iy k λj hj=>h j CZ]
def N3{f:Nat->Nat}{a:Int}{t:List Nm}{q j0:Nat}(h0:f j0=q)(hq:q<t.length):∀ k:Nat,j0<k->(∀ j,j<k->j≠j0->f j≠q)->(gz f a k t).getD q default=((t.getD q default).1-a,(t.getD q default).2)
 |0,hk,_=>CZ
 |k+1,hk,h=>by
  rw[gz];by_cases e:j0=k
  ·subst e;rw[h0,ace _ _ _ _ (by rw[Ai];exact hq),if_pos rfl,Iy j0 λj hj=>h j CZ CZ];congr 1
  ·rw[acf _ _ (h k CZ CZ),N3 h0 hq k CZ λj hj=>h j CZ]
def Iz{a b n j k:Int}(hj:0<=j/\j<n)(hk:0<=k/\k<n)(h:a*n+j=b*n+k):a=b/\j=k:=by
 rcases Int.lt_trichotomy a b with hl|hl|hl
 ·have:(a+1)*n<=b*n:=Fq CZ CZ;rw[Int.add_mul,O5]at this;omega
 ·subst hl;omega
 ·have:(b+1)*n<=a*n:=Fq CZ CZ;rw[Int.add_mul,O5]at this;omega
def ja(an:List Int)(g:Lg)(i:Nat):Nm:=(g.1.getD i default).getD (an.getD i 0).toNat default
def uQ(m:aj)(an:List Int)(p:Pr):Nat:=(an.getD p.fst.toNat 0*(m.cls.getD p.snd.toNat default).length+an.getD p.snd.toNat 0).toNat
def jb(m:aj)(an:List Int)(g:Lg)(i:Nat):Nm:=(g.2.getD i default).getD (uQ m an (m.ae.getD i default)) default
def IA{α:Type}[Inhabited α](l:List α)(i j:Nat)(x:α)(hi:i<l.length):(l.set i x).getD j default=if i=j then x else l.getD j default:=by
 by_cases h:i=j
 ·subst h;rw[if_pos rfl];simp only[az,bU,hi,if_true,pQ]
 ·rw[if_neg h];simp only[az,fN h]
structure IB(m:aj)(x:Mv):Prop where
 p:0<=x.pair/\x.pair<m.ae.length
 s:x.side=0\/x.side=1
 c:0<=dL m x/\dL m x<m.cls.length
 o:0<=x.opt/\x.opt<(m.cls.getD (dL m x).toNat default).length
def acg{m:aj}{x:Mv}(h:gK m x=true):IB m x:=by
 unfold gK at h;rw[a7,decide_eq_true_eq,jK]at h;exact⟨CZ,CZ,CZ,CZ⟩
def lF{m:aj}{an:List Int}(hp:FP m an){j:Nat}(hj:j<m.cls.length):0<=an.getD j 0/\an.getD j 0<(m.cls.getD j default).length:=by
 have h:=jK.1 (hp.get j (by rw[hp.len];exact hj));rw[cF]at h;exact h.2.2
abbrev uR(m:aj)(an:List Int)(x:Mv):Prop:=an.getD (dL m x).toNat 0=x.opt
def ach{m:aj}{an:List Int}(hp:FP m an){B:Int}{g:Lg}(h:LG m B g){x:Mv}(hx:IB m x)(i:Nat):
  ja an (iY m x g) i=if i=(dL m x).toNat then(if uR m an x then((ja an g i).1+x.amt,(ja an g i).2) else ja an g i) else ja an g i:=by
 obtain⟨hxp,dN,uk,wx⟩:=hx;have h1:=h.s;have h2:=h.sl (dL m x).toNat CZ;have h3:=lF hp (j:=(dL m x).toNat) CZ;unfold ja iY uR;dsimp only;rw[IA _ _ _ _ CZ];by_cases e:i=(dL m x).toNat
 ·subst e;rw[if_pos rfl,if_pos rfl,ace _ _ _ _ CZ];by_cases e2:an.getD (dL m x).toNat 0=x.opt
  ·rw[if_pos e2,if_pos (by rw[e2])]
  ·rw[if_neg e2,if_neg CZ]
 ·rw[if_neg (Ne.symm e),if_neg e]
def aci{m:aj}(hm:VM m){an:List Int}(hp:FP m an){B:Int}{g:Lg}(h:LG m B g){x:Mv}(hx:IB m x)(i:Nat):
  jb m an (iY m x g) i=if i=x.pair.toNat then(if uR m an x then((jb m an g i).1-x.amt,(jb m an g i).2) else jb m an g i) else jb m an g i:=by
 obtain⟨hxp,dN,uk,wx⟩:=hx;have h1:=h.t;have h2:=h.tl x.pair.toNat CZ;unfold jb iY;dsimp only;rw[IA _ _ _ _ CZ];by_cases e:i=x.pair.toNat;rotate_left
 ·rw[if_neg (Ne.symm e),if_neg e]
 subst e;rw[if_pos rfl,if_pos rfl];have dj:=jV hm.pr _ (aF (l:=m.ae) (i:=x.pair.toNat) (d:=default) CZ);unfold uR;unfold dL at *;unfold nK uQ;generalize m.ae.getD x.pair.toNat default=p at *;obtain⟨q1,q2,q3,q4,q5⟩:=qI dj;have ha:=lF hp (j:=p.fst.toNat) CZ;have hb:=lF hp (j:=p.snd.toNat) CZ;have yp:=hm.opt _ (aF (l:=m.cls) (i:=p.fst.toNat) (d:=default) CZ);have re:=hm.opt _ (aF (l:=m.cls) (i:=p.snd.toNat) (d:=default) CZ);generalize g.2.getD x.pair.toNat default=t at *;generalize LX:an.getD p.fst.toNat 0=a at *;generalize ov:an.getD p.snd.toNat 0=b at *;generalize DV:(m.cls.getD p.fst.toNat default).length=na at *;generalize al7:(m.cls.getD p.snd.toNat default).length=nb at *;have lZ:=Aj (x:=a) (y:=b) (a:=na) (b:=nb) ha hb CZ CZ;rcases dN with hs|hs
 ·rw[if_pos hs]at uk wx;rw[if_pos hs,if_pos hs,LX];rw[DV]at wx;dsimp only;have Il:=Aj (x:=x.opt) (y:=b) (a:=na) (b:=nb) wx hb CZ CZ;by_cases e2:a=x.opt
  ·rw[if_pos e2];refine N3 (j0:=b.toNat) ?_ CZ nb CZ λj hj bX he=>?_
   ·rw[e2,u5 hb.1]
   ·have:=Iz (a:=x.opt) (b:=a) (n:=nb) (j:=j) (k:=b) CZ CZ CZ;omega
  ·rw[if_neg e2];refine Iy nb λj hj he=>?_;have:=Iz (a:=x.opt) (b:=a) (n:=nb) (j:=j) (k:=b) CZ CZ CZ;omega
 ·rw[if_neg CZ]at uk wx;have xj:¬ x.side=0:=CZ;rw[if_neg xj,if_neg xj,ov];rw[al7]at wx;dsimp only;by_cases e2:b=x.opt
  ·rw[if_pos e2];refine N3 (j0:=a.toNat) ?_ CZ na CZ λj hj bX he=>?_
   ·rw[e2,u5 ha.1]
   ·have zB:=Aj (x:=(j:Int)) (y:=x.opt) (a:=na) (b:=nb) CZ wx CZ CZ;have:=Iz (a:=(j:Int)) (b:=a) (n:=nb) (j:=x.opt) (k:=b) CZ CZ CZ;omega
  ·rw[if_neg e2];refine Iy na λj hj he=>?_;have zB:=Aj (x:=(j:Int)) (y:=x.opt) (a:=na) (b:=nb) CZ wx CZ CZ;have:=Iz (a:=(j:Int)) (b:=a) (n:=nb) (j:=x.opt) (k:=b) CZ CZ CZ;omega
def wy(m:aj)(an:List Int)(g:Lg):Int:=bu (λi=>(ja an g i).1) m.cls.length+bu (λi=>(jb m an g i).1) m.ae.length
def al8{m:aj}(hm:VM m){an:List Int}(hp:FP m an){B:Int}{g:Lg}(h:LG m B g){x:Mv}(hx:IB m x):
  wy m an (iY m x g)=wy m an g/\(∀ i,(ja an (iY m x g) i).2=(ja an g i).2)/\∀ i,(jb m an (iY m x g) i).2=(jb m an g i).2:=by
 have hS:=ach hp h hx;have hT:=aci hm hp h hx;refine⟨?_,λi=>?_,λi=>?_⟩
 ·unfold wy;by_cases hh:uR m an x
  ·rw[iX (g:=λi=>if i=(dL m x).toNat then(ja an g i).1+x.amt else(ja an g i).1) m.cls.length λi _=>by
    rw[hS,if_pos hh];split<;>rfl,iX (g:=λi=>if i=x.pair.toNat then(jb m an g i).1+-x.amt else(jb m an g i).1) m.ae.length λi _=>by
    rw[hT,if_pos hh];split<;>rfl,yB,yB,if_pos (by have:=hx.c;omega),if_pos (by have:=hx.p;omega)]
   omega
  ·rw[iX (g:=λi=>(ja an g i).1) m.cls.length λi _=>by rw[hS,if_neg hh];simp,iX (g:=λi=>(jb m an g i).1) m.ae.length λi _=>by rw[hT,if_neg hh];simp]
 ·rw[hS];split<;>(try split)<;>rfl
 ·rw[hT];split<;>(try split)<;>rfl
def acj{m:aj}(hm:VM m){an:List Int}(hp:FP m an):∀ (l:List Mv) (B:Int) (g:Lg),0<=B->LG m B g->(∀ x∈l,gK m x=true) ->
  wy m an (fq m l g)=wy m an g/\(∀ i,(ja an (fq m l g) i).2=(ja an g i).2)/\∀ i,(jb m an (fq m l g) i).2=(jb m an g i).2
 |[],B,g,_,_,_=>⟨rfl,λ_=>rfl,λ_=>rfl⟩
 |x::r,B,g,hB,h,hx=>by
  have h1:=al8 hm hp h (acg (hx x Fl));have h2:=acj hm hp r _ (iY m x g) CZ (Ml hm hB h (hx x Fl)) (λy hy=>hx y (by simp[hy]));exact⟨h2.1.trans h1.1,λi=>(h2.2.1 i).trans (h1.2.1 i),λi=>(h2.2.2 i).trans (h1.2.2 i)⟩
def IC:∀ (l:List Nm) (s:List Bool) (b:Int×Bool),b.2=true->(cK l s b).2=true/\(cK l s b).1<=b.1
 |[],s,b,h=>by cases s<;>exact⟨h,mP _⟩
 |p::r,[],b,h=>⟨h,mP _⟩
 |p::r,is::s,b,h=>by
  rw[cK];split
  ·rename_i hc;have h2:=IC r s (p.1,true) rfl;have h3:p.1<b.1:=by
    rcases hc.2.2 with h4|h4
    ·rw[h]at h4;cases h4
    ·exact h4
   exact⟨h2.1,by have:=h2.2;dsimp only at this;omega⟩
  ·exact IC r s b h
def N4:∀ (l:List Nm) (s:List Bool) (b:Int×Bool) (i:Nat),i<l.length->s.getD i false=true->(l.getD i default).2=false->(cK l s b).2=true/\(cK l s b).1<=(l.getD i default).1
 |[],s,b,i,h,_,_=>by simp at h
 |p::r,[],b,i,_,h,_=>by simp at h
 |p::r,is::s,b,0,_,h1,h2=>by
  rw[gA]at h1 h2 ⊢;rw[cK];split
  ·exact IC r s (p.1,true) rfl
  ·rename_i hc;have hb:b.2=true/\b.1<=p.1:=by
    cases nG:b.2 with
    |false=>exact absurd ⟨h1,h2,.inl nG⟩ hc
    |true=>exact⟨rfl,by rcases Fw p.1 b.1 with h|h;exact absurd ⟨h1,h2,.inr h⟩ hc;exact h⟩
   have:=IC r s b hb.1;exact⟨this.1,CZ⟩
 |p::r,is::s,b,i+1,h,h1,h2=>by
  rw[eS]at h1 h2 ⊢;rw[cK];exact N4 r s _ i (by simpa using h) h1 h2
def ack:∀ (l:List Nm) (s:List Bool) (b:Int×Bool),(∀ i,s.getD i false=false)->cK l s b=b
 |[],s,b,_=>by cases s<;>rfl
 |p::r,[],b,_=>rfl
 |p::r,is::s,b,h=>by
  have h0:=h 0;rw[gA]at h0;rw[cK,if_neg (by rw[h0];simp)];exact ack r s b λi=>by have:=h (i+1);rwa [eS]at this
def N5:∀ (l:List Nm) (s:List Bool) (b:Int×Bool) (i:Nat),i<l.length->(∀ j,s.getD j false=decide (j=i))->b.2=false ->
  cK l s b=if(l.getD i default).2=false then((l.getD i default).1,true) else b
 |[],s,b,i,h,_,_=>by simp at h
 |p::r,[],b,i,_,h,_=>by have:=h i;simp at this
 |p::r,is::s,b,0,_,h,hb=>by
  have h0:=h 0;rw[gA,decide_eq_true rfl]at h0;rw[gA,cK,ack r s _ λi=>by have:=h (i+1);rw[eS]at this;rw[this];simp];by_cases hp:p.2=false
  ·rw[if_pos ⟨h0,hp,.inl hb⟩,if_pos hp]
  ·rw[if_neg (λhc=>hp hc.2.1),if_neg hp]
 |p::r,is::s,b,i+1,hi,h,hb=>by
  have h0:=h 0;rw[gA,decide_eq_false CZ]at h0;rw[eS,cK,if_neg (by rw[h0];simp)];exact N5 r s b i (by simpa using hi) (λj=>by have:=h (j+1);rw[eS]at this;rw[this];simp) hb
def ID(f:Nat->Int×Bool)(z:Int×Bool):∀ n,(bL ((aY n).map f) z).1=z.1+bu (λi=>(f i).1) n
 |0=>by simp[bL,bu]
 |n+1=>by rw[yE,B4,bu];dsimp only;rw[ID f z n];omega
def AG(f:Nat->Int×Bool)(z:Int×Bool):∀ n,(bL ((aY n).map f) z).2=true↔(z.2=true\/∃ i,i<n/\(f i).2=false)
 |0=>by simp[bL]
 |n+1=>by
  rw[yE,B4];dsimp only;rw[Bool.or_eq_true,AG f z n,Bool.not_eq_true'];constructor
  ·rintro((h|⟨i,hi,h⟩)|h)
   ·exact .inl h
   ·exact .inr ⟨i,CZ,h⟩
   ·exact .inr ⟨n,CZ,h⟩
  ·rintro(h|⟨i,hi,h⟩)
   ·exact .inl (.inl h)
   ·by_cases e:i=n
    ·subst e;exact .inr h
    ·exact .inl (.inr ⟨i,CZ,h⟩)
def qT(left:List (List Bool))(g:Lg)(i:Nat):Int×Bool:=cK (g.1.getD i default) (left.getD i default) (0,false)
def qU(m:aj)(left:List (List Bool))(g:Lg)(i:Nat):Int×Bool:=cK (g.2.getD i default) (ig m left i) (0,false)
def rQ(m:aj)(left:List (List Bool))(i:Nat):Int×Bool:=(iW left (m.aK.getD i default),!(decide ((m.aK.getD i default).cI=1099511627776)&&decide (0<iW left (m.aK.getD i default))))
def AH(m:aj)(left:List (List Bool))(g:Lg):Int:=bu (λi=>(qT left g i).1) m.cls.length+bu (λi=>(qU m left g i).1) m.ae.length+bu (λi=>(rQ m left i).1) m.aK.length
def IE(m:aj)(left:List (List Bool))(g:Lg):Prop:=(∃ i,i<m.cls.length/\(qT left g i).2=false)\/(∃ i,i<m.ae.length/\(qU m left g i).2=false)\/∃ i,i<m.aK.length/\(rQ m left i).2=false
def acm{m:aj}{left:List (List Bool)}{g:Lg}(h:IE m left g):kU m left g=1099511627776:=by
 unfold kU;rw[if_pos];show(bL ((aY m.aK.length).map (rQ m left)) (bL ((aY m.ae.length).map (qU m left g)) (bL ((aY m.cls.length).map (qT left g)) (0,false)))).2=true;rw[AG,AG,AG];rcases h with h|h|h
 ·exact .inl (.inl (.inr h))
 ·exact .inl (.inr h)
 ·exact .inr h
def N6{m:aj}{left:List (List Bool)}{g:Lg}(h:¬ IE m left g):kU m left g=min (AH m left g) 1099511627776:=by
 have h1:¬ (bL ((aY m.aK.length).map (rQ m left)) (bL ((aY m.ae.length).map (qU m left g)) (bL ((aY m.cls.length).map (qT left g)) (0,false)))).2=true:=by
  rw[AG,AG,AG];rintro(((h2|h2)|h2)|h2)
  ·cases h2
  ·exact h (.inl h2)
  ·exact h (.inr (.inl h2))
  ·exact h (.inr (.inr h2))
 have h2:(bL ((aY m.aK.length).map (rQ m left)) (bL ((aY m.ae.length).map (qU m left g)) (bL ((aY m.cls.length).map (qT left g)) (0,false)))).1=AH m left g:=by
  rw[ID,ID,ID];unfold AH;dsimp only;omega
 show(if(bL ((aY m.aK.length).map (rQ m left)) (bL ((aY m.ae.length).map (qU m left g)) (bL ((aY m.cls.length).map (qT left g)) (0,false)))).2=true then(1099511627776:Int) else min (bL ((aY m.aK.length).map (rQ m left)) (bL ((aY m.ae.length).map (qU m left g)) (bL ((aY m.cls.length).map (qT left g)) (0,false)))).1 1099511627776)=_;rw[if_neg h1,h2]
def al9(m:aj)(left:List (List Bool))(g:Lg):kU m left g<=1099511627776:=by
 unfold kU;split<;>omega
def IF:∀ (l:List Ld) (c o w:Int),(∀ y∈l,¬ (y.cls=c/\y.opt=o))->fM l c o w=w
 |[],_,_,_,_=>rfl
 |x::r,c,o,w,h=>by rw[fM,if_neg (h x Fl),IF r c o w λy hy=>h y (by simp[hy])]
def acn{m:aj}:∀ {l:List Ld} {q:Option Ld} (c o:Int),e7 m q l=true->fM l c o 0=uI l c o
 |[],_,_,_,_=>rfl
 |x::r,q,c,o,h=>by
  have hr:e7 m (some x) r=true:=by
   cases q<;>rw[e7]at h<;>simp only[a7]at h<;>exact h.2
  rw[fM,uI];by_cases e:x.cls=c/\x.opt=o
  ·rw[if_pos e,if_pos e];exact IF r c o _ λy hy he=>by have:=yL hr y hy;omega
  ·rw[if_neg e,if_neg e];exact acn c o hr
def aco(l:List Ld):∀ (an:List Int) (i:Nat),tu l i an=bu (λj=>uI l (i+j:Nat) (an.getD j 0)) an.length
 |[],i=>rfl
 |o::r,i=>by
  rw[tu,aco l r (i+1),cV,yC];simp only[gA,eS,il];rw[iX (g:=λj=>uI l (i+(j+1):Nat) (r.getD j 0)) r.length λj _=>by rw[show i+1+j=i+(j+1) by omega]]
def Cz{l:List Ld}(h:∀ x∈l,1<=x.wt/\x.wt<=1000)(c:Int):∀ (row:List Bool) (o:Nat) (b:Int),0<=b->0<=dG l c o row b/\dG l c o row b<=b
 |[],_,b,hb=>⟨hb,mP _⟩
 |is::r,o,b,hb=>by
  rw[dG];have hw:=yA h c o 0 CZ;split
  ·rename_i hc;have:=Cz h c r (o+1) (fM l c o 0) hw.1;omega
  ·exact Cz h c r (o+1) b hb
def IG{l:List Ld}(h:∀ x∈l,1<=x.wt/\x.wt<=1000)(c:Int):∀ (row:List Bool) (o:Nat) (b:Int) (i:Nat),row.getD i false=true->dG l c o row b<=fM l c (o+i:Nat) 0
 |[],_,b,i,hi=>by simp at hi
 |is::r,o,b,0,hi=>by
  rw[gA]at hi;have hw:=yA h c o 0 CZ;rw[dG];simp only[il];split
  ·exact(Cz h c r (o+1) _ hw.1).2
  ·rename_i hc;have hb:0<=b/\b<=fM l c o 0:=by
    constructor
    ·rcases Fw b 0 with h2|h2
     ·exact absurd ⟨hi,.inl h2⟩ hc
     ·exact h2
    ·rcases Fw (fM l c o 0) b with h2|h2
     ·exact absurd ⟨hi,.inr h2⟩ hc
     ·exact h2
   have:=Cz h c r (o+1) b hb.1;omega
 |is::r,o,b,i+1,hi=>by
  rw[eS]at hi;rw[dG,show o+(i+1)=o+1+i by omega];exact IG h c r (o+1) _ i hi
def N7(l:List Ld)(c:Int):∀ (row:List Bool) (o:Nat) (b:Int),(∀ i,row.getD i false=false)->dG l c o row b=b
 |[],_,_,_=>rfl
 |is::r,o,b,h=>by
  have h0:=h 0;rw[gA]at h0;rw[dG,if_neg (by rw[h0];simp)];exact N7 l c r (o+1) b λi=>by have:=h (i+1);rwa [eS]at this
def acp(l:List Ld)(c:Int):∀ (row:List Bool) (o:Nat) (i:Nat),(∀ j,row.getD j false=decide (j=i))->dG l c o row (-1)=fM l c (o+i:Nat) 0
 |[],_,i,h=>by have:=h i;simp at this
 |is::r,o,0,h=>by
  have h0:=h 0;rw[gA,decide_eq_true rfl]at h0;rw[dG,if_pos ⟨h0,.inl Fs⟩,il];exact N7 l c r (o+1) _ λj=>by have:=h (j+1);rw[eS]at this;rw[this];simp
 |is::r,o,i+1,h=>by
  have h0:=h 0;rw[gA,decide_eq_false CZ]at h0;rw[dG,if_neg (by rw[h0];simp),show o+(i+1)=o+1+i by omega];exact acp l c r (o+1) i λj=>by have:=h (j+1);rw[eS]at this;rw[this];simp
def IH{f:Nat->Int}:∀ (n:Nat),(∀ i<n,0<=f i)->0<=bu f n/\∀ i<n,f i<=bu f n
 |0,_=>⟨mP _,λi h=>CZ⟩
 |n+1,h=>by
  have h1:=IH n λi hi=>h i CZ;have h2:=h n CZ;rw[bu];refine⟨CZ,λi hi=>?_⟩;by_cases e:i=n
  ·subst e;omega
  ·have:=h1.2 i CZ;omega
def AI{f g:Nat->Int}:∀ (n:Nat),(∀ i<n,f i<=g i)->bu f n<=bu g n
 |0,_=>mP _
 |n+1,h=>by
  have:=AI n λi hi=>h i CZ;have:=h n CZ;rw[bu,bu];omega
def al'{m:aj}{an:List Int}(hm:VM m)(hp:FP m an){i:Nat}(hi:i<m.cls.length):bQ (rC m an i):=by
 have h:=lF hp hi;have hl:=aF (l:=m.cls) (i:=i) (d:=default) hi;exact DJ (hm.rp _ hl _ (aF (l:=m.cls.getD i default) (i:=(an.getD i 0).toNat) (d:=default) CZ))
def N8{m:aj}{an:List Int}(hp:FP m an){i:Nat}(hi:i<m.cls.length):ja an (S0 m,T0 m) i=ez (rC m an i):=by
 have h:=lF hp hi;unfold ja S0;dsimp only;rw[gn _ _ _ hi];unfold dm b8;rw[List.map_map,gn _ _ _ CZ];rfl
def acq{m:aj}{an:List Int}(hm:VM m)(hp:FP m an){p:Pr}(dj:iD m p=true):uQ m an p<p.aC.length:=by
 obtain⟨q1,q2,q3,q4,q5⟩:=qI dj;have ha:=lF hp (j:=p.fst.toNat) CZ;have hb:=lF hp (j:=p.snd.toNat) CZ;have yp:=hm.opt _ (aF (l:=m.cls) (i:=p.fst.toNat) (d:=default) CZ);have re:=hm.opt _ (aF (l:=m.cls) (i:=p.snd.toNat) (d:=default) CZ);have lZ:=Aj ha hb CZ CZ;unfold uQ;omega
def N9{m:aj}{an:List Int}(hm:VM m)(hp:FP m an){i:Nat}(hi:i<m.ae.length):jb m an (S0 m,T0 m) i=ez (pH m an (m.ae.getD i default)):=by
 have dj:=jV hm.pr _ (aF (l:=m.ae) (i:=i) (d:=default) hi);have lZ:=acq hm hp dj;unfold jb T0;dsimp only;rw[gn _ _ _ hi];unfold dm;rw[gn _ _ _ lZ];unfold pH yG uQ;rfl
def acr{m:aj}{left:List (List Bool)}(hm:VM m)(hf:cP m left){i:Nat}(hi:i<m.ae.length){x y:Int}(hx:0<=x/\x<(m.cls.getD (m.ae.getD i default).fst.toNat default).length)(hy:0<=y/\y<(m.cls.getD (m.ae.getD i default).snd.toNat default).length):
  (ig m left i).getD (x*(m.cls.getD (m.ae.getD i default).snd.toNat default).length+y).toNat false=((left.getD (m.ae.getD i default).fst.toNat default).getD x.toNat false&&(left.getD (m.ae.getD i default).snd.toNat default).getD y.toNat false):=by
 have dj:=jV hm.pr _ (aF (l:=m.ae) (i:=i) (d:=default) hi);unfold ig;generalize m.ae.getD i default=p at *;obtain⟨q1,q2,q3,q4,q5⟩:=qI dj;have yp:=hm.opt _ (aF (l:=m.cls) (i:=p.fst.toNat) (d:=default) CZ);have re:=hm.opt _ (aF (l:=m.cls) (i:=p.snd.toNat) (d:=default) CZ);have lZ:=Aj hx hy CZ CZ;have f1:=hf.2 p.fst.toNat (by have:=hf.1;omega);have f2:=hf.2 p.snd.toNat (by have:=hf.1;omega);rw[<- f1]at hx lZ;rw[<- f2]at hy lZ ⊢;generalize left.getD p.fst.toNat default=a at *;generalize left.getD p.snd.toNat default=b at *;obtain⟨x,rfl⟩:=Fy hx.1;obtain⟨y,rfl⟩:=Fy hy.1;have e:((x:Int)*b.length+y).toNat=x*b.length+y:=by
  rw[show((x:Int)*b.length+y)=((x*b.length+y:Nat):Int) by simp,cF]
 have e2:x*b.length+y<a.length*b.length:=by
  have:=lZ.2.2;rw[show((x:Int)*b.length+y)=((x*b.length+y:Nat):Int) by simp,show(a.length:Int)*b.length=((a.length*b.length:Nat):Int) by simp]at this;omega
 have Gl:y<b.length:=CZ;rw[e,HM _ _ _ e2,cF,cF,pT x,Nat.mul_add_div CZ,OW Gl,OX,CV Gl,il]
def acs{m:aj}{an:List Int}(hp:FP m an){c:Ct}(hc:kH m c=true):yH an c.a6 0=bu (λj=>fM c.a6 (j:Nat) (an.getD j 0) 0) m.cls.length:=by
 obtain⟨_,_,_,q4⟩:=td hc;rw[XU hp.len 0 q4,aco,y8,hp.len];exact iX _ λj _=>by rw[gq,acn _ _ q4]
def yT(m:aj)(left:List (List Bool))(an:List Int):Prop:=∀ i,i<m.cls.length->(left.getD i default).getD (an.getD i 0).toNat false=true
def EZ(m:aj)(left:List (List Bool))(an:List Int):Prop:=∀ i,i<m.cls.length->∀ j,(left.getD i default).getD j false=decide (j=(an.getD i 0).toNat)
def least_le{m:aj}{an:List Int}{left:List (List Bool)}(hm:VM m)(hp:FP m an)(hf:cP m left)(dP:yT m left an){c:Ct}(hc:kH m c=true):iW left c<=nk an c:=by
 obtain⟨_,_,q3,q4⟩:=td hc;have hw:∀ x∈c.a6,1<=x.wt/\x.wt<=1000:=λx hx=>(vW q4 x hx).2;refine aiz (uF q3).1 ?_;rw[BX,acs hp hc,y8,hf.1];refine AI _ λj hj=>?_;have hg:=lF hp hj;have h1:=IG hw (j:Nat) (left.getD j []) 0 (-1) (an.getD j 0).toNat (dP j hj);have h2:=yA hw (j:Nat) (an.getD j 0) 0 CZ;rw[gq,u5 hg.1]at h1;unfold lY;rw[gq];omega
def ama{m:aj}{an:List Int}{left:List (List Bool)}(hm:VM m)(hp:FP m an)(hf:cP m left)(dP:EZ m left an){c:Ct}(hc:kH m c=true):iW left c=nk an c:=by
 obtain⟨_,_,q3,q4⟩:=td hc;have hw:∀ x∈c.a6,1<=x.wt/\x.wt<=1000:=λx hx=>(vW q4 x hx).2;unfold iW nk;congr 1;rw[BX,acs hp hc,y8,hf.1];refine iX _ λj hj=>?_;have hg:=lF hp hj;have h1:=acp c.a6 (j:Nat) (left.getD j []) 0 (an.getD j 0).toNat (dP j hj);have h2:=yA hw (j:Nat) (an.getD j 0) 0 CZ;rw[gq,u5 hg.1]at h1;unfold lY;rw[gq,h1];omega
def amb{m:aj}{an:List Int}{c:Ct}(hc:kH m c=true):bQ (nk an c):=Ms (uF (td hc).2.2.1)
def acu{most s:Int}(h:0<k0 most 1099511627776 s):k0 most 1099511627776 s=1099511627776:=by
 unfold k0 at *;split at h
 ·omega
 ·rename_i h2;rw[if_neg h2];omega
def amc{m:aj}{an:List Int}{p:Pr}(h:iD m p=true):bQ (pH m an p):=Mr h _ _
structure amd(m:aj)(an:List Int)(left:List (List Bool))(g:Lg):Prop where
 jW:te (vU m an) 0=min (bu (rC m an) m.cls.length+bu (λi=>pH m an (m.ae.getD i default)) m.ae.length+bu (λi=>nk an (m.aK.getD i default)) m.aK.length) 1099511627776
 ps:wy m an g=bu (rC m an) m.cls.length+bu (λi=>pH m an (m.ae.getD i default)) m.ae.length
 sf:∀ i,i<m.cls.length->(ja an g i).2=decide (1099511627776<=rC m an i)
 tf:∀ i,i<m.ae.length->(jb m an g i).2=decide (1099511627776<=pH m an (m.ae.getD i default))
 sl:∀ i,i<m.cls.length->(an.getD i 0).toNat<(g.1.getD i default).length
 tl:∀ i,i<m.ae.length->uQ m an (m.ae.getD i default)<(g.2.getD i default).length
 a:0<=bu (rC m an) m.cls.length/\∀ i<m.cls.length,rC m an i<=bu (rC m an) m.cls.length
 b:0<=bu (λi=>pH m an (m.ae.getD i default)) m.ae.length/\∀ i<m.ae.length,pH m an (m.ae.getD i default)<=bu (λi=>pH m an (m.ae.getD i default)) m.ae.length
 c:0<=bu (λi=>nk an (m.aK.getD i default)) m.aK.length/\∀ i<m.aK.length,nk an (m.aK.getD i default)<=bu (λi=>nk an (m.aK.getD i default)) m.aK.length
def parts{m:aj}{an:List Int}(hm:VM m)(hp:FP m an)(left:List (List Bool))(l:List Mv)(hl:∀ x∈l,gK m x=true):amd m an left (fq m l (S0 m,T0 m)):=by
 have eW:=acj hm hp l _ _ Fs (HK hm) hl;have jM:=Eh hm l hl;refine⟨aiv hm hp,?_,λi hi=>?_,λi hi=>?_,λi hi=>?_,λi hi=>?_,IH _ λi hi=>(al' hm hp hi).1,IH _ λi hi=>(amc (jV hm.pr _ (aF hi))).1,IH _ λi hi=>(amb (hm.ct _ (aF hi))).1⟩
 ·rw[eW.1];unfold wy;rw[iX m.cls.length λi hi=>by rw[N8 hp hi],iX m.ae.length λi hi=>by rw[N9 hm hp hi]];rfl
 ·rw[eW.2.1,N8 hp hi];rfl
 ·rw[eW.2.2,N9 hm hp hi];rfl
 ·have:=lF hp hi;rw[jM.sl i hi];omega
 ·rw[jM.tl i hi];exact acq hm hp (jV hm.pr _ (aF hi))
def ame{m:aj}{an:List Int}{left:List (List Bool)}(hm:VM m)(hp:FP m an)(hf:cP m left)(dP:yT m left an){i:Nat}(hi:i<m.ae.length):(ig m left i).getD (uQ m an (m.ae.getD i default)) false=true:=by
 have dj:=jV hm.pr _ (aF (l:=m.ae) (i:=i) (d:=default) hi);obtain⟨q1,q2,q3,q4,q5⟩:=qI dj;unfold uQ;rw[acr hm hf hi (lF hp CZ) (lF hp CZ),dP _ CZ,dP _ CZ];rfl
def amf{m:aj}{an:List Int}{left:List (List Bool)}(hm:VM m)(hp:FP m an)(hf:cP m left)(qu:EZ m left an){i:Nat}(hi:i<m.ae.length)(j:Nat):(ig m left i).getD j false=decide (j=uQ m an (m.ae.getD i default)):=by
 have dj:=jV hm.pr _ (aF (l:=m.ae) (i:=i) (d:=default) hi);obtain⟨q1,q2,q3,q4,q5⟩:=qI dj;have g1:=lF hp (j:=(m.ae.getD i default).fst.toNat) CZ;have g2:=lF hp (j:=(m.ae.getD i default).snd.toNat) CZ;have o1:=qu (m.ae.getD i default).fst.toNat CZ;have o2:=qu (m.ae.getD i default).snd.toNat CZ;have f1:=hf.2 (m.ae.getD i default).fst.toNat (by have:=hf.1;omega);have f2:=hf.2 (m.ae.getD i default).snd.toNat (by have:=hf.1;omega);unfold ig uQ;generalize m.ae.getD i default=p at *;rw[<- f1]at g1;rw[<- f2]at g2 ⊢;generalize left.getD p.fst.toNat default=a at *;generalize left.getD p.snd.toNat default=b at *;generalize an.getD p.fst.toNat 0=x at *;generalize an.getD p.snd.toNat 0=y at *;obtain⟨x,rfl⟩:=Fy g1.1;obtain⟨y,rfl⟩:=Fy g2.1;simp only[cF]at o1 o2;have hx:x<a.length:=CZ;have hy:y<b.length:=CZ;have e:((x:Int)*b.length+y).toNat=x*b.length+y:=by
  rw[show((x:Int)*b.length+y)=((x*b.length+y:Nat):Int) by simp,cF]
 rw[e];by_cases hj:j<a.length*b.length
 ·rw[HM _ _ _ hj,o1,o2,<- Bool.decide_and];have E0:=Nat.div_add_mod j b.length;have FT:=Nat.mod_lt j (show 0<b.length by omega);refine decide_eq_decide.2 ⟨λ⟨h1,h2⟩=>?_,λh=>?_⟩
  ·rw[h1,h2,pT]at E0;exact E0.symm
  ·rw[h,pT x,Nat.mul_add_div CZ,OW hy,OX,CV hy];exact⟨rfl,rfl⟩
 ·rw[az,fY (by rw[Ek];omega),Option.getD_none,decide_eq_false];intro h;have h3:(x+1)*b.length<=a.length*b.length:=Nat.mul_le_mul_right _ hx;rw[eT,uU]at h3;omega
def amg{m:aj}{an:List Int}(hm:VM m)(hp:FP m an)(left:List (List Bool))(hf:cP m left)(dP:yT m left an)(l:List Mv)(hl:∀ x∈l,gK m x=true):
  kU m left (fq m l (S0 m,T0 m))<=te (vU m an) 0:=by
 have P:=parts hm hp left l hl;generalize fq m l (S0 m,T0 m)=g at *;rw[P.jW];have ha:=P.a;have hb:=P.b;have hc:=P.c;have eW:=P.ps;have aol:=al9 m left g;by_cases hF:1099511627776<=bu (rC m an) m.cls.length+bu (λi=>pH m an (m.ae.getD i default)) m.ae.length+bu (λi=>nk an (m.aK.getD i default)) m.aK.length
 ·omega
 have e1:∀ i,i<m.cls.length->(qT left g i).2=true/\(qT left g i).1<=(ja an g i).1:=λi hi=>by
  have:=ha.2 i hi;exact N4 _ _ _ _ (P.sl i hi) (dP i hi) (by show(ja an g i).2=false;rw[P.sf i hi,decide_eq_false CZ])
 have e2:∀ i,i<m.ae.length->(qU m left g i).2=true/\(qU m left g i).1<=(jb m an g i).1:=λi hi=>by
  have:=hb.2 i hi;exact N4 _ _ _ _ (P.tl i hi) (ame hm hp hf dP hi) (by show(jb m an g i).2=false;rw[P.tf i hi,decide_eq_false CZ])
 have e3:∀ i,i<m.aK.length->(rQ m left i).2=true/\(rQ m left i).1<=nk an (m.aK.getD i default):=λi hi=>by
  have h1:=hc.2 i hi;have uK:=hm.ct _ (aF (l:=m.aK) (i:=i) (d:=default) hi);have h2:=least_le hm hp hf dP uK;refine⟨?_,h2⟩;unfold rQ;dsimp only;cases hz:(decide ((m.aK.getD i default).cI=1099511627776)&&decide (0<iW left (m.aK.getD i default))) with
  |false=>rfl
  |true =>
   exfalso;rw[a7,decide_eq_true_eq,decide_eq_true_eq]at hz;have h3:nk an (m.aK.getD i default)=1099511627776:=by
    unfold nk at h2 ⊢;rw[hz.1]at h2 ⊢;exact acu CZ
   omega
 rw[N6]
 ·have s1:=AI m.cls.length λi hi=>(e1 i hi).2;have s2:=AI m.ae.length λi hi=>(e2 i hi).2;have s3:=AI m.aK.length λi hi=>(e3 i hi).2;unfold AH;unfold wy at eW;omega
 ·rintro(⟨i,hi,h⟩|⟨i,hi,h⟩|⟨i,hi,h⟩)
  ·rw[(e1 i hi).1]at h;cases h
  ·rw[(e2 i hi).1]at h;cases h
  ·rw[(e3 i hi).1]at h;cases h
def N'{m:aj}{an:List Int}(hm:VM m)(hp:FP m an)(left:List (List Bool))(hf:cP m left)(qu:EZ m left an)(l:List Mv)(hl:∀ x∈l,gK m x=true):
  kU m left (fq m l (S0 m,T0 m))=te (vU m an) 0:=by
 have P:=parts hm hp left l hl;generalize fq m l (S0 m,T0 m)=g at *;rw[P.jW];have ha:=P.a;have hb:=P.b;have hc:=P.c;have eW:=P.ps;have e1:∀ i,i<m.cls.length->qT left g i=if(ja an g i).2=false then((ja an g i).1,true) else(0,false):=λi hi =>
  N5 _ _ _ _ (P.sl i hi) (qu i hi) rfl
 have e2:∀ i,i<m.ae.length->qU m left g i=if(jb m an g i).2=false then((jb m an g i).1,true) else(0,false):=λi hi =>
  N5 _ _ _ _ (P.tl i hi) (amf hm hp hf qu hi) rfl
 have e3:∀ i,i<m.aK.length->iW left (m.aK.getD i default)=nk an (m.aK.getD i default):=λi hi =>
  ama hm hp hf qu (hm.ct _ (aF hi))
 by_cases hN:IE m left g
 ·rw[acm hN];rcases hN with⟨i,hi,h⟩|⟨i,hi,h⟩|⟨i,hi,h⟩
  ·rw[e1 i hi,P.sf i hi]at h;have:=ha.2 i hi;by_cases hx:1099511627776<=rC m an i
   ·omega
   ·rw[decide_eq_false hx,if_pos rfl]at h;cases h
  ·rw[e2 i hi,P.tf i hi]at h;have:=hb.2 i hi;by_cases hx:1099511627776<=pH m an (m.ae.getD i default)
   ·omega
   ·rw[decide_eq_false hx,if_pos rfl]at h;cases h
  ·have h1:=hc.2 i hi;unfold rQ at h;dsimp only at h;rw[e3 i hi,Bool.not_eq_false',a7,decide_eq_true_eq,decide_eq_true_eq]at h;have h3:nk an (m.aK.getD i default)=1099511627776:=by
    obtain⟨h4,h5⟩:=h;unfold nk at h5 ⊢;rw[h4]at h5 ⊢;exact acu h5
   omega
 ·rw[N6 hN];congr 1;rw[<- eW];unfold AH wy;congr 1
  ·congr 1
   ·refine iX _ λi hi=>?_;rw[e1 i hi];split
    ·rfl
    ·rename_i h;exact absurd (.inl ⟨i,hi,by rw[e1 i hi,if_neg h]⟩) hN
   ·refine iX _ λi hi=>?_;rw[e2 i hi];split
    ·rfl
    ·rename_i h;exact absurd (.inr (.inl ⟨i,hi,by rw[e2 i hi,if_neg h]⟩)) hN
  ·exact iX _ λi hi=>e3 i hi
def Oa:∀ (l:List Nm) (t:List Bool) (b:Int×Bool),cK l t b=b\/∃ i,i<l.length/\t.getD i false=true/\(l.getD i default).2=false/\cK l t b=((l.getD i default).1,true)
 |[],t,b=>.inl (by cases t<;>rfl)
 |p::r,[],b=>.inl rfl
 |p::r,is::t,b=>by
  rw[cK];split
  ·rename_i hc;rcases Oa r t (p.1,true) with h|⟨i,h1,h2,h3,h4⟩
   ·exact .inr ⟨0,Fl,by simpa using hc.1,by simpa using hc.2.1,by rw[h];simp⟩
   ·exact .inr ⟨i+1,by simpa using h1,by simpa using h2,by simpa using h3,by rw[h4];simp⟩
  ·rcases Oa r t b with h|⟨i,h1,h2,h3,h4⟩
   ·exact .inl h
   ·exact .inr ⟨i+1,by simpa using h1,by simpa using h2,by simpa using h3,by rw[h4];simp⟩
def Od(l:List Ld)(c:Int):∀ (row:List Bool) (o:Nat) (b:Int),dG l c o row b=b\/∃ i,row.getD i false=true/\dG l c o row b=fM l c (o+i:Nat) 0
 |[],_,_=>.inl rfl
 |is::r,o,b=>by
  rw[dG];split
  ·rename_i hc;rcases Od l c r (o+1) (fM l c o 0) with h|⟨i,h1,h2⟩
   ·exact .inr ⟨0,by simpa using hc.1,by rw[h];rfl⟩
   ·exact .inr ⟨i+1,by simpa using h1,by rw[h2,show o+1+i=o+(i+1) by omega]⟩
  ·rcases Od l c r (o+1) b with h|⟨i,h1,h2⟩
   ·exact .inl h
   ·exact .inr ⟨i+1,by simpa using h1,by rw[h2,show o+1+i=o+(i+1) by omega]⟩
def acv{l:List Ld}(h:∀ x∈l,1<=x.wt/\x.wt<=1000)(c:Int):∀ (row:List Bool) (o:Nat) (b:Int) (i:Nat),row.getD i false=true->0<=dG l c o row b
 |[],_,b,i,hi=>by simp at hi
 |is::r,o,b,0,hi=>by
  rw[gA]at hi;have hw:=yA h c o 0 CZ;rw[dG];split
  ·exact(Cz h c r (o+1) _ hw.1).1
  ·rename_i hc;have hb:0<=b:=by
    rcases Fw b 0 with h2|h2
    ·exact absurd ⟨hi,.inl h2⟩ hc
    ·exact h2
   exact(Cz h c r (o+1) b hb).1
 |is::r,o,b,i+1,hi=>by
  rw[eS]at hi;rw[dG];exact acv h c r (o+1) _ i hi
def oQ:List Int->List Bool->Int->Int
 |x::r,b::s,n=>oQ r s (if b=true then min n x else n)
 |_,_,n=>n
def II(aC:List Int)(w i:Nat)(a:Bool):Nat->List Bool->Int->Int
 |_,[],n=>n
 |k,b::r,n=>II aC w i a (k+1) r (if a=true/\b=true then min n (aC.getD (i*w+k) 0) else n)
def IJ(aC:List Int)(w:Nat)(rb:List Bool):Nat->List Bool->Int->Int
 |_,[],n=>n
 |i,a::r,n=>IJ aC w rb (i+1) r (II aC w i a 0 rb n)
def IK(m:aj)(left:List (List Bool))(p:Pr):Int:=IJ p.aC (m.cls.getD p.snd.toNat default).length (left.getD p.snd.toNat default) 0 (left.getD p.fst.toNat default) 1099511627776
def wz:List Bool->Int->Int
 |[],n=>n
 |b::r,n=>wz r (if b=true then n+1 else n)
def oR(c:Int)(row:List Bool):List Ld->Int×Int->Int×Int
 |[],z=>z
 |x::r,z=>oR c row r (if x.cls=c/\row.getD x.opt.toNat false=true then(z.1-1,if z.2<0\/x.wt<z.2 then x.wt else z.2) else z)
def yU(l:List Ld)(c:Int)(row:List Bool):Int:=if 0<(oR c row l (wz row 0,-1)).1\/(oR c row l (wz row 0,-1)).2<0 then 0 else(oR c row l (wz row 0,-1)).2
def CA(l:List Ld)(left:List (List Bool)):Option Int->List Ld->Int->Int
 |_,[],n=>n
 |q,x::r,n=>CA l left (some x.cls) r (if q=some x.cls then n else n+yU l x.cls (left.getD x.cls.toNat default))
def acw(n cI:Int):Int:=if 0<n/\cI=1099511627776 then 1099511627776 else min (n*cI) 1099511627776
def E1(left:List (List Bool))(c:Ct):Int:=acw (max (CA c.a6 left none c.a6 (-c.most)) 0) c.cI
def IL(left:List (List Bool)):Nat->List (List dq)->Int->Option Int
 |_,[],n=>some n
 |i,c::r,n=>if oQ (b8 c) (left.getD i default) 1099511627776=1099511627776 then none else IL left (i+1) r (n+oQ (b8 c) (left.getD i default) 1099511627776)
def E2(m:aj)(left:List (List Bool)):List Pr->Int->Option Int
 |[],n=>some n
 |p::r,n=>if IK m left p=1099511627776 then none else E2 m left r (n+IK m left p)
def E3(left:List (List Bool)):List Ct->Int->Option Int
 |[],n=>some n
 |c::r,n=>if E1 left c=1099511627776 then none else E3 left r (n+E1 left c)
def E4:Option Int->Int
 |none=>1099511627776
 |some n=>min n 1099511627776
def E5(m:aj)(left:List (List Bool)):Option Int->Option Int
 |none=>none
 |some n=>E3 left m.aK n
def IM(m:aj)(left:List (List Bool)):Option Int->Option Int
 |none=>none
 |some n=>E2 m left m.ae n
def CB(m:aj)(left:List (List Bool)):Int:=E4 (E5 m left (IM m left (IL left 0 m.cls 0)))
def wA(q:Int×Bool):Int:=if q.2=true then q.1 else 1099511627776
def Oe:∀ (l:List Int) (s:List Bool) (b:Int×Bool),(∀ x∈l,bQ x)->(b.2=true->b.1<1099511627776) ->
  wA (cK (dm l) s b)=oQ l s (wA b)/\((cK (dm l) s b).2=true->(cK (dm l) s b).1<1099511627776)
 |[],s,b,_,hb=>⟨by cases s<;>rfl,hb⟩
 |x::r,[],b,_,hb=>⟨rfl,hb⟩
 |x::r,is::s,b,h,hb=>by
  have hx:=h x Fl;unfold bQ at hx;rw[show dm (x::r)=ez x::dm r from rfl,cK,oQ];have key:wA (if is=true/\(ez x).2=false/\(b.2=false\/(ez x).1<b.1) then((ez x).1,true) else b)=(if is=true then min (wA b) x else wA b):=by
   obtain⟨b1,b2⟩:=b;unfold ez wA;dsimp only at hb ⊢;cases is<;>cases b2<;>simp at hb ⊢<;>(repeat' split)<;>simp_all<;>omega
  have:=Oe r s (if is=true/\(ez x).2=false/\(b.2=false\/(ez x).1<b.1) then((ez x).1,true) else b) (λy hy=>h y (by simp[hy])) (by
   split
   ·rename_i hc;intro _;have:=hc.2.1;unfold ez at this ⊢;simp at this;exact this
   ·exact hb)
  rw[key]at this;exact this
def acx:∀ (l:List Int) (s t:List Bool) (n:Int),s.length<=l.length->oQ l (s++t) n=oQ (l.drop s.length) t (oQ l s n)
 |l,[],t,n,_=>by cases l<;>rfl
 |[],b::s,t,n,h=>by simp at h
 |x::r,b::s,t,n,h=>by
  rw[List.cons_append,oQ,oQ,cV,List.drop_succ_cons];exact acx r s t _ (by simpa using h)
def acy(aC:List Int)(w i:Nat)(a:Bool):∀ (r:List Bool) (k:Nat) (n:Int),i*w+k+r.length<=aC.length->II aC w i a k r n=oQ (aC.drop (i*w+k)) (r.map (a && ·)) n
 |[],k,n,_=>by cases(aC.drop (i*w+k))<;>rfl
 |b::r,k,n,h=>by
  have ba:i*w+k<aC.length:=by simp at h;omega
  have hd:aC.drop (i*w+k)=aC.getD (i*w+k) 0::aC.drop (i*w+(k+1)):=by
   rw[List.drop_eq_getElem_cons ba,az,List.getElem?_eq_getElem ba];rfl
  rw[II,hd,fF,oQ,acy aC w i a r (k+1) _ (by simp at h;omega)];congr 1;cases a<;>cases b<;>simp
def acz(aC:List Int)(w:Nat)(rb:List Bool)(hw:rb.length=w):∀ (r:List Bool) (i:Nat) (n:Int),i*w+r.length*w<=aC.length->IJ aC w rb i r n=oQ (aC.drop (i*w)) (qN r rb) n
 |[],i,n,_=>by show n=oQ _ [] n;cases(aC.drop (i*w))<;>rfl
 |a::r,i,n,h=>by
  have h2:i*w+(r.length+1)*w<=aC.length:=h;rw[eT,uU]at h2;rw[IJ,acy aC w i a rb 0 n CZ,acz aC w rb hw r (i+1) _ (by rw[eT];omega)];show _=oQ _ (rb.map (a && ·)++qN r rb) n;rw[acx _ _ _ _ (by rw[eu,List.length_drop];omega),List.drop_drop,eu,hw,eT,uU];simp only[il]
def jF:List (Int×Bool)->Int->Option Int
 |[],n=>some n
 |p::r,n=>if p.2=false then none else jF r (n+p.1)
def IN:∀ (l:List (Int×Bool)) (n:Int),jF l n=if(bL l (n,false)).2=true then none else some (bL l (n,false)).1
 |[],n=>rfl
 |p::r,n=>by
  rw[jF];obtain⟨a,b⟩:=p;cases b
  ·show none=if(bL r (n+a,true)).2=true then none else _;rw[El,if_pos rfl]
  ·exact IN r (n+a)
def acA{m:aj}(hm:VM m)(left:List (List Bool)):∀ (k i:Nat) (n:Int),i+k=m.cls.length->IL left i (m.cls.drop i) n=jF ((nq i k).map λj=>cK ((S0 m).getD j default) (left.getD j default) (0,false)) n
 |0,i,n,h=>by rw[j9 CZ];rfl
 |k+1,i,n,h=>by
  have hi:i<m.cls.length:=CZ;have hs:(S0 m).getD i default=dm (b8 (m.cls.getD i default)):=by rw[S0,gn _ _ _ hi]
  have h2:=Oe (b8 (m.cls.getD i default)) (left.getD i default) (0,false) (λx hx=>by
   obtain⟨o,ho,rfl⟩:=List.mem_map.1 hx;exact DJ (hm.rp _ (aF hi) o ho)) Fl
  rw[show wA (0,false)=1099511627776 from rfl]at h2;rw[lk m.cls i default hi,IL,xJ,fF,jF,acA hm left k (i+1) _ CZ,hs,<- h2.1];generalize cK (dm (b8 (m.cls.getD i default))) (left.getD i default) (0,false)=q at *;obtain⟨a,b⟩:=q;unfold wA at *;cases b<;>simp at h2 ⊢;intro e;omega
def acB{m:aj}(hm:VM m){left:List (List Bool)}(hf:cP m left):∀ (k i:Nat) (n:Int),i+k=m.ae.length->E2 m left (m.ae.drop i) n=jF ((nq i k).map λj=>cK ((T0 m).getD j default) (ig m left j) (0,false)) n
 |0,i,n,h=>by rw[j9 CZ];rfl
 |k+1,i,n,h=>by
  have hi:i<m.ae.length:=CZ;have hs:(T0 m).getD i default=dm (m.ae.getD i default).aC:=by rw[T0,gn _ _ _ hi]
  have dj:=jV hm.pr _ (aF (d:=default) hi);obtain⟨_,p1,p2,p3,p4⟩:=qI dj;have f1:=hf.2 (m.ae.getD i default).fst.toNat (by rw[hf.1];omega);have f2:=hf.2 (m.ae.getD i default).snd.toNat (by rw[hf.1];omega);have h2:=Oe (m.ae.getD i default).aC (ig m left i) (0,false) (GV dj) Fl;rw[show wA (0,false)=1099511627776 from rfl]at h2;have h3:IK m left (m.ae.getD i default)=oQ (m.ae.getD i default).aC (ig m left i) 1099511627776:=by
   unfold IK ig;rw[acz _ _ _ f2 _ 0 _ (by rw[Fk,gq,f1];have:=p4;exact_mod_cast Int.le_of_eq this.symm),Fk,AP]
  rw[lk m.ae i default hi,E2,xJ,fF,jF,acB hm hf k (i+1) _ CZ,hs,h3,<- h2.1];generalize cK (dm (m.ae.getD i default).aC) (ig m left i) (0,false)=q at *;obtain⟨a,b⟩:=q;unfold wA at *;cases b<;>simp at h2 ⊢;intro e;omega
def acC{f:Nat->Int}:∀ {n:Nat},(∀ i<n,0<=f i)->(0<=bu f n/\(0<bu f n↔∃ i,i<n/\0<f i))
 |0,_=>by simp[bu]
 |n+1,h=>by
  obtain⟨h1,h2⟩:=acC (n:=n) λi hi=>h i CZ;have h3:=h n CZ;rw[bu];refine⟨CZ,λh4=>?_,?_⟩
  ·by_cases h5:0<bu f n
   ·obtain⟨i,hi,hf⟩:=h2.1 h5;exact⟨i,CZ,hf⟩
   ·exact⟨n,CZ,CZ⟩
  ·rintro⟨i,hi,hf⟩;by_cases e:i=n
   ·subst e;omega
   ·have:=h2.2 ⟨i,CZ,hf⟩;omega
def acD(f g:Nat->Int):∀ n,bu f n-bu g n=bu (λi=>f i-g i) n
 |0=>rfl
 |n+1=>by rw[bu,bu,bu,<- acD f g n];omega
def acE:∀ (row:List Bool) (n:Int),wz row n=n+bu (λo=>if row.getD o false=true then 1 else 0) row.length
 |[],n=>by simp[wz,bu]
 |b::r,n=>by
  rw[wz,acE r,cV,yC];simp only[gA,eS];split<;>omega
def Of{m:aj}{q:Option Ld}{x:Ld}{r:List Ld}(h:e7 m q (x::r)=true):e7 m (some x) r=true:=by
 cases q<;>rw[e7]at h<;>simp only[a7]at h<;>exact h.2
open Classical in
def acF{m:aj}(c:Int)(row:List Bool):∀ {l:List Ld} {q:Option Ld},e7 m q l=true->∀ z:Int×Int,
  (oR c row l z).1=z.1-bu (λo=>if row.getD o false=true/\∃ x∈l,x.cls=c/\x.opt=(o:Int) then 1 else 0) row.length
 |[],_,_,z=>by
  rw[iX (g:=λ_=>0) _ λi _=>Fl];have:∀ n,bu (λ_=>0) n=0:=λn=>by induction n with|zero=>rfl|succ n ih=>rw[bu,ih];rfl
  rw[this,oR];omega
 |x::r,q,h,z=>by
  have hr:=Of h;have hx:=(jK.1 (vW h x Fl).1).2.2.1;rw[oR,acF c row hr];by_cases hc:x.cls=c/\row.getD x.opt.toNat false=true
  ·rw[if_pos hc];have hk:x.opt.toNat<row.length:=by
    rcases dw x.opt.toNat row.length with h'|h'
    ·exact h'
    ·rw[az,fY h']at hc;simp at hc
   rw[iX (f:=λo=>if row.getD o false=true/\∃ y∈x::r,y.cls=c/\y.opt=(o:Int) then 1 else 0) (g:=λo=>if o=x.opt.toNat then(if row.getD o false=true/\∃ y∈r,y.cls=c/\y.opt=(o:Int) then 1 else 0)+1 else(if row.getD o false=true/\∃ y∈r,y.cls=c/\y.opt=(o:Int) then 1 else 0)) _ λo _=>by
    by_cases e:o=x.opt.toNat
    ·subst e;rw[if_pos ⟨hc.2,x,Fl,hc.1,CZ⟩,if_pos rfl,if_neg (by rintro⟨_,y,hy,h1,h2⟩;have:=yL hr y hy;omega)];rfl
    ·rw[if_neg e];congr 1;rw[eq_iff_iff];refine and_congr_right λ_=>⟨?_,λ⟨y,hy,h1⟩=>⟨y,by simp[hy],h1⟩⟩;rintro⟨y,hy,h1,h2⟩;rcases a8.1 hy with rfl|hy
     ·omega
     ·exact⟨y,hy,h1,h2⟩,yB,if_pos hk]
   dsimp only;omega
  ·rw[if_neg hc];rw[iX (f:=λo=>if row.getD o false=true/\∃ y∈x::r,y.cls=c/\y.opt=(o:Int) then 1 else 0) (g:=λo=>if row.getD o false=true/\∃ y∈r,y.cls=c/\y.opt=(o:Int) then 1 else 0) _ λo _=>by
    congr 1;rw[eq_iff_iff];refine and_congr_right λCg=>⟨?_,λ⟨y,hy,h1⟩=>⟨y,by simp[hy],h1⟩⟩;rintro⟨y,hy,h1,h2⟩;rcases a8.1 hy with rfl|hy
    ·exact absurd ⟨h1,by rw[h2,cF];exact Cg⟩ hc
    ·exact⟨y,hy,h1,h2⟩]
def acG(c:Int)(row:List Bool):∀ {l:List Ld},(∀ x∈l,1<=x.wt)->∀ z:Int×Int,
  (∀ x∈l,x.cls=c/\row.getD x.opt.toNat false=true->0<=(oR c row l z).2/\(oR c row l z).2<=x.wt)/\(0<=z.2->0<=(oR c row l z).2/\(oR c row l z).2<=z.2) /\
   ((oR c row l z).2=z.2\/∃ x∈l,(x.cls=c/\row.getD x.opt.toNat false=true)/\(oR c row l z).2=x.wt)
 |[],_,z=>⟨Fl,λh=>⟨h,mP _⟩,.inl rfl⟩
 |x::r,h,z=>by
  obtain⟨h1,h2,h3⟩:=acG c row (l:=r) (λy hy=>h y (by simp[hy])) (if x.cls=c/\row.getD x.opt.toNat false=true then(z.1-1,if z.2<0\/x.wt<z.2 then x.wt else z.2) else z);have hx:=h x Fl;rw[oR];generalize oR c row r _=w at *;by_cases hc:x.cls=c/\row.getD x.opt.toNat false=true
  ·rw[if_pos hc]at h2 h3;dsimp only at h2 h3;refine⟨λy hy zw=>?_,λhz=>?_,?_⟩
   ·rcases a8.1 hy with rfl|hy
    ·split at h2<;>omega
    ·exact h1 y hy zw
   ·split at h2<;>omega
   ·rcases h3 with h3|⟨y,hy,h3⟩
    ·split at h3
     ·exact .inr ⟨x,Fl,hc,h3⟩
     ·exact .inl h3
    ·exact .inr ⟨y,by simp[hy],h3⟩
  ·rw[if_neg hc]at h2 h3;refine⟨λy hy zw=>?_,h2,?_⟩
   ·rcases a8.1 hy with rfl|hy
    ·exact absurd zw hc
    ·exact h1 y hy zw
   ·rcases h3 with h3|⟨y,hy,h3⟩
    ·exact .inl h3
    ·exact .inr ⟨y,by simp[hy],h3⟩
def Og{m:aj}:∀ {l:List Ld} {q:Option Ld},e7 m q l=true->∀ x∈l,∀ w,fM l x.cls x.opt w=x.wt
 |[],_,_,x,hx,w=>by simp at hx
 |y::r,q,h,x,hx,w=>by
  have hr:=Of h;rw[fM];rcases a8.1 hx with rfl|hx
  ·rw[if_pos ⟨rfl,rfl⟩];exact IF r _ _ _ λz hz he=>by have:=yL hr z hz;omega
  ·exact Og hr x hx _
open Classical in
def amh{m:aj}{l:List Ld}{q:Option Ld}(hl:e7 m q l=true)(c:Int)(row:List Bool):yU l c row=lY l c row:=by
 have hw:∀ x∈l,1<=x.wt/\x.wt<=1000:=λx hx=>(vW hl x hx).2;have h1:=acF c row hl (wz row 0,-1);obtain⟨h2,_,h3⟩:=acG c row (λx hx=>(hw x hx).1) (wz row 0,-1);unfold yU;generalize oR c row l (wz row 0,-1)=z at *;rw[acE,y8,acD]at h1;obtain⟨h4,h5⟩:=acC (f:=λi=>(if row.getD i false=true then(1:Int) else 0)-if row.getD i false=true/\∃ x∈l,x.cls=c/\x.opt=(i:Int) then 1 else 0) (n:=row.length) λi _=>by
  (repeat' split)<;>simp_all
 rw[<- h1]at h4 h5;have hlen:∀ i,row.getD i false=true->i<row.length:=λi h'=>by
  rcases dw i row.length with h6|h6
  ·exact h6
  ·rw[az,fY h6]at h';simp at h'
 have l8:∀ x∈l,0<=x.opt:=λx hx=>(jK.1 (vW hl x hx).1).2.2.1;by_cases hex :∃o,row.getD o false=true/\¬∃x∈l,x.cls=c/\x.opt=(o:Int)
 ·obtain⟨o,ho,qg⟩:=hex;rw[if_pos (.inl (h5.2 ⟨o,hlen o ho,by rw[if_pos ho,if_neg (by rintro⟨_,h'⟩;exact qg h')];decide⟩))];have h6:=IG hw c row 0 (-1) o ho;rw[gq,IF l c o 0 λy hy he=>qg ⟨y,hy,he⟩]at h6;unfold lY;omega
 have fk:∀ o,row.getD o false=true->∃ x∈l,x.cls=c/\x.opt=(o:Int):=λo ho=>Classical.byContradiction λh'=>hex ⟨o,ho,h'⟩;have hz:¬ 0<z.1:=λh'=>by
  obtain⟨i,hi,h6⟩:=h5.1 h';by_cases hr:row.getD i false=true
  ·rw[if_pos hr,if_pos ⟨hr,fk i hr⟩]at h6;omega
  ·rw[if_neg hr,if_neg (λh7=>hr h7.1)]at h6;omega
 by_cases xF :∃o,row.getD o false=true
 ·obtain⟨o,ho⟩:=xF;obtain⟨x,hx,uk,wx⟩:=fk o ho;obtain⟨g1,g2⟩:=h2 x hx ⟨uk,by rw[wx,cF];exact ho⟩;rw[if_neg CZ];have g3:=acv hw c row 0 (-1) o ho;unfold lY;rw[Int.max_eq_left g3];refine Int.le_antisymm ?_ ?_
  ·rcases Od l c row 0 (-1) with e|⟨i,hi,e⟩
   ·omega
   ·obtain⟨y,hy,qq,hyo⟩:=fk i hi;rw[e,gq,<- hyo,<- qq,Og hl y hy];exact(h2 y hy ⟨qq,by rw[hyo,cF];exact hi⟩).2
  ·rcases h3 with e|⟨y,hy,⟨qq,CC⟩,e⟩
   ·dsimp only at e;omega
   ·have h6:=IG hw c row 0 (-1) _ CC;rw[gq,u5 (l8 y hy),<- qq,Og hl y hy]at h6;rw[<- qq];omega
 ·have e:z.2 = -1:=by
   rcases h3 with e|⟨y,hy,⟨qq,CC⟩,e⟩
   ·exact e
   ·exact absurd ⟨_,CC⟩ xF
  rw[if_pos (.inr CZ),lY,N7 l c row 0 (-1) λi=>by
   cases h':row.getD i false with
   |false=>rfl
   |true=>exact absurd ⟨i,h'⟩ xF]
  rfl
open Classical in
def acI{m:aj}(L:List Ld)(left:List (List Bool)){N:Nat}(hN:m.cls.length<=N):∀ {r:List Ld} {q:Option Ld},e7 m q r=true->∀ n:Int,
  CA L left (q.map (·.cls)) r n=n+bu (λj=>if(∃ x∈r,x.cls=(j:Int))/\q.map (·.cls)≠some (j:Int) then yU L j (left.getD j default) else 0) N
 |[],_,_,n=>by
  rw[iX (g:=λ_=>0) _ λi _=>Fl];have:∀ n,bu (λ_=>0) n=0:=λn=>by induction n with|zero=>rfl|succ n ih=>rw[bu,ih];rfl
  rw[this,CA];omega
 |x::r,q,h,n=>by
  have hr:=Of h;obtain⟨hx0,BV,_⟩:=jK.1 (vW h x Fl).1;have h0:=acI L left hN hr;simp only[im]at h0;rw[CA,h0];by_cases hq:q.map (·.cls)=some x.cls
  ·rw[if_pos hq,hq];congr 1;refine iX _ λj _=>?_;congr 1;rw[eq_iff_iff];simp only[ne_eq,cy.injEq];refine and_congr_left λhj=>⟨λ⟨y,hy,e⟩=>⟨y,by simp[hy],e⟩,?_⟩;rintro⟨y,hy,e⟩;rcases a8.1 hy with rfl|hy
   ·exact absurd e hj
   ·exact⟨y,hy,e⟩
  ·rw[if_neg hq,iX (f:=λj=>if(∃ y∈x::r,y.cls=(j:Int))/\q.map (·.cls)≠some (j:Int) then yU L j (left.getD j default) else 0)
    (g:=λj=>if j=x.cls.toNat then(if(∃ y∈r,y.cls=(j:Int))/\some x.cls≠some (j:Int) then yU L j (left.getD j default) else 0)+yU L x.cls (left.getD x.cls.toNat default) else(if(∃ y∈r,y.cls=(j:Int))/\some x.cls≠some (j:Int) then yU L j (left.getD j default) else 0)) _ λj _=>by
    have IP:((x.cls.toNat:Nat):Int)=x.cls:=u5 hx0;by_cases e:j=x.cls.toNat
    ·subst e;rw[if_pos ⟨⟨x,Fl,IP.symm⟩,by rw[IP];exact hq⟩,if_pos rfl,if_neg (by rw[IP];simp),IP];omega
    ·rw[if_neg e];congr 1;rw[eq_iff_iff];constructor
     ·rintro⟨⟨y,hy,Oh⟩,_⟩;rcases a8.1 hy with rfl|hy
      ·omega
      ·exact⟨⟨y,hy,Oh⟩,by simp only[ne_eq,cy.injEq];omega⟩
     ·rintro⟨⟨y,hy,Oh⟩,_⟩;refine⟨⟨y,by simp[hy],Oh⟩,λhqj=>?_⟩;cases q with
      |none=>simp at hqj
      |some q =>
       have h6:=yL h y (by simp[hy]);have h7:=yL h x Fl;have h8:=yL hr y hy;simp only[im,cy.injEq]at hqj hq;omega,yB,if_pos CZ]
   omega
def ami{m:aj}(hm:VM m){left:List (List Bool)}(hf:cP m left){c:Ct}(hc:kH m c=true):
  E1 left c=iW left c/\(E1 left c=1099511627776↔(decide (c.cI=1099511627776)&&decide (0<iW left c))=true):=by
 obtain⟨_,q2,q3,q4⟩:=td hc;have hw:∀ x∈c.a6,1<=x.wt/\x.wt<=1000:=λx hx=>(vW q4 x hx).2;have hs:CA c.a6 left none c.a6 (-c.most) = -c.most+j5 c.a6 0 left 0:=by
  have:=acI (m:=m) c.a6 left (Nat.le_refl _) (q:=none) q4 (-c.most);rw[Option.map_none]at this;rw[this,BX,y8,hf.1];congr 1;refine iX _ λj _=>?_;rw[gq];split
  ·exact amh q4 _ _
  ·rename_i hn;rw[VG λx hx e=>hn ⟨⟨x,hx,e⟩,Fl⟩]
 have hr:=Ef hw left;have L4:=hm.cls;rw[hf.1]at hr;unfold E1 iW;rw[hs];generalize j5 c.a6 0 left 0=s at *;unfold acw k0;unfold lB at q3;rw[decide_eq_true_eq]at q3;by_cases h0:s<=c.most
 ·rw[Int.max_eq_right CZ,if_neg CZ,if_pos h0];simp<;>omega
 rw[Int.max_eq_left CZ,if_neg h0,show -c.most+s=s-c.most by omega];rcases q3 with q3|q3
 ·rw[if_neg CZ];have h1:(s-c.most)*c.cI<=24000*1048576:=Int.mul_le_mul CZ CZ CZ CZ;refine⟨rfl,?_⟩;rw[decide_eq_false (by omega:¬ c.cI=1099511627776),Bool.false_and];constructor
  ·intro h;omega
  ·intro h;simp at h
 ·rw[q3,if_pos ⟨CZ,rfl⟩,show min ((s-c.most)*1099511627776) 1099511627776=(1099511627776:Int) by omega];simp
def acK{m:aj}(hm:VM m){left:List (List Bool)}(hf:cP m left):∀ (k i:Nat) (n:Int),i+k=m.aK.length->E3 left (m.aK.drop i) n=jF ((nq i k).map λj=>rQ m left j) n
 |0,i,n,h=>by rw[j9 CZ];rfl
 |k+1,i,n,h=>by
  have hi:i<m.aK.length:=CZ;obtain⟨h1,h2⟩:=ami hm hf (hm.ct _ (aF (d:=default) hi));rw[lk m.aK i default hi,E3,xJ,fF,jF,acK hm hf k (i+1) _ CZ];unfold rQ;dsimp only;rw[h1]at h2 ⊢;by_cases h3:iW left (m.aK.getD i default)=1099511627776
  ·rw[if_pos h3,h2.1 h3];rfl
  ·rw[if_neg h3];cases hb:(decide ((m.aK.getD i default).cI=1099511627776)&&decide (0<iW left (m.aK.getD i default))) with
   |true=>exact absurd (h2.2 hb) h3
   |false=>rfl
def acL{m:aj}(hm:VM m){left:List (List Bool)}(hf:cP m left):CB m left=kU m left (S0 m,T0 m):=by
 have h1:=acA hm left m.cls.length 0 0 CZ;have h2:=λn=>acB hm hf m.ae.length 0 n CZ;have h3:=λn=>acK hm hf m.aK.length 0 n CZ;simp only[AP,<- List.range_eq_range']at h1 h2 h3;unfold CB kU;rw[h1];show E4 (E5 m left (IM m left (jF (PC left (S0 m) m.cls.length) 0)))=_;have h2':∀ n,E2 m left m.ae n=jF (PP m left (T0 m) m.ae.length) n:=h2;have M6:∀ n,E3 left m.aK n=jF (PK m left m.aK.length) n:=h3;rw[IN];generalize bL (PC left (S0 m) m.cls.length) (0,false)=z;obtain⟨a,b⟩:=z;cases b
 ·simp only[IM,h2',IN,jd,if_false];generalize bL (PP m left (T0 m) m.ae.length) (a,false)=z;obtain⟨a2,b2⟩:=z;cases b2
  ·simp only[E5,M6,IN,jd,if_false];generalize bL (PK m left m.aK.length) (a2,false)=z;obtain⟨a3,b3⟩:=z;cases b3<;>simp[E4]
  ·simp only[if_true,E5,E4,El]
 ·simp only[if_true,IM,E5,E4];have:∀ l n,(bL l (n,true))=((bL l (n,true)).1,true):=λl n=>Prod.ext rfl (El l n);rw[this,this (PK m left m.aK.length)];rfl
end T

