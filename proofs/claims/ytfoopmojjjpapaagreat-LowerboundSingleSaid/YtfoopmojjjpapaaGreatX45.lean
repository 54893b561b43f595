import Derived.Test.YtfoopmojjjpapaaGreatX39
set_option linter.all false
set_option maxHeartbeats 0
set_option maxRecDepth 20000
open List renaming getD_eq_getElem?_getD→az,count_append→tN,take_zero→mD,append_nil→nL,take_length→wG,getElem_of_mem→mZ,getElem?_eq_getElem→bF,all_eq_true→fW,take_append_drop→DR,count_pos_iff→Qe,mem_map→bW
open Int renaming toNat_natCast→c7
open Option renaming bind_eq_some_iff→Ar,getD_some→lV
open Bool renaming not_eq_false→GQ,true_and→gK
open Nat renaming le_refl→aY
open Go Go.Am
namespace T
abbrev dH:=List (Int×Int)
def ew(up:dH)(j:Nat):Int×Int:=up.getD j default
def B7(n:Nat):dH:=List.replicate n (-1,0)
def B8(up:dH):Nat->Nat->dH
 |0,_=>[]
 |f+1,k=>if 0<=(ew up k).1 then ew up k::B8 up f (ew up k).1.toNat else []
def lA(up:dH)(k:Nat):dH:=B8 up (k+1) k
def qR(P:List Nd)(c:Int)(l:dH):Bool:=l.any λa=>(nd P a.1.toNat).cls==c
def oE(n i:Nat)(kids:List Int)(up:dH):Nat->Option dH
 |0=>some up
 |o+1=>(oE n i kids up o).bind λu=>if ln n i (kids.getD o 0)=true/\(ew u (kids.getD o 0).toNat).1<0 then some (u.set (kids.getD o 0).toNat ((i:Int),(o:Int))) else none
def o5(m:ah)(P:List Nd)(i:Nat)(up:dH):Option dH :=
 if 0<i/\(ew up i).1<0 then none
 else if mg m (nd P i)=false then none
 else if(nd P i).cls = -1 then some up
 else if qR P (nd P i).cls (lA up i)=true then none
 else oE P.length i (nd P i).kids up (nd P i).kids.length
def mA(m:ah)(P:List Nd):Nat->Option dH
 |0=>some (B7 P.length)
 |i+1=>(mA m P i).bind (o5 m P i)
def nJ(m:ah)(P:List Nd):Option dH:=if 1<=P.length/\P.length<=20000 then mA m P P.length else none
def aee{n i:Nat}{kids:List Int}{up:dH}{o:Nat}(h:oE n i kids up o=none):∀ o',o<=o'->oE n i kids up o'=none:=by
 intro o' ho
 induction o' with
 |zero =>
  obtain rfl:o=0:=GK;exact h
 |succ q ih =>
  by_cases e:o=q+1
  ·subst e;exact h
  ·have:=ih GK;show(oE n i kids up q).bind _=none;rw[this];rfl
def Py{m:ah}{P:List Nd}{o:Nat}(h:mA m P o=none):∀ o',o<=o'->mA m P o'=none:=by
 intro o' ho
 induction o' with
 |zero =>
  obtain rfl:o=0:=GK;exact h
 |succ q ih =>
  by_cases e:o=q+1
  ·subst e;exact h
  ·have:=ih GK;show(mA m P q).bind _=none;rw[this];rfl
structure UI(P:List Nd)(i o:Nat)(up:dH):Prop where
 len:up.length=P.length
 low:∀ j,j<P.length->ew up j=(-1,0)\/∃ p q:Nat,ew up j=((p:Int),(q:Int))/\p<j/\q<(nd P p).kids.length/\(p<i\/p=i/\q<o)
 set:∀ p q,(p<i\/p=i/\q<o)->p<P.length->q<(nd P p).kids.length->∃ j,j<P.length/\p<j/\(nd P p).kids.getD q 0=(j:Int)/\ew up j=((p:Int),(q:Int))
 pN:∀ j:Nat,j<P.length->((fi (P.take i)++(nd P i).kids.take o).count (j:Int)=if 0<=(ew up j).1 then 1 else 0)
def aef(n j:Nat)(h:j<n):ew (B7 n) j=(-1,0):=by
 unfold ew B7;rw[az,List.getElem?_replicate_of_lt h];rfl
def UI.zero(P:List Nd):UI P 0 0 (B7 P.length) where
 len:=List.length_replicate
 low j hj:=.inl (aef _ _ hj)
 set p q h:=GK
 pN j hj:=by rw[aef _ _ hj];simp[fi]
def J7{up:dH}{k j:Nat}{x:Int×Int}(hk:k<up.length):ew (up.set k x) j=if k=j then x else ew up j:=by
 unfold ew;rw[az,List.getElem?_set];by_cases e:k=j
 ·subst e;rw[if_pos rfl,if_pos hk,if_pos rfl];rfl
 ·rw[if_neg e,if_neg e,az]
def UI.kid{P:List Nd}{i o:Nat}{up:dH}(h:UI P i o up)(hi:i<P.length)(ho:o<(nd P i).kids.length)(hk:ln P.length i ((nd P i).kids.getD o 0)=true)(hu:(ew up ((nd P i).kids.getD o 0).toNat).1<0):
  UI P i (o+1) (up.set ((nd P i).kids.getD o 0).toNat ((i:Int),(o:Int))):=by
 unfold ln at hk;rw[decide_eq_true_eq]at hk;have gR:(nd P i).kids.take (o+1)=(nd P i).kids.take o++[(nd P i).kids.getD o 0]:=eu ho;generalize iK:(nd P i).kids.getD o 0=k at *;obtain⟨kn,rfl⟩:∃kn:Nat,k=kn:=⟨k.toNat,GK⟩;rw[c7]at hu ⊢;have eG:kn<up.length:=by rw[h.len];omega
 refine⟨by rw[List.length_set];exact h.len,λj hj=>?_,λp q yI hp hq=>?_,λj hj=>?_⟩
 ·rw[J7 eG];by_cases e:kn=j
  ·subst e;rw[if_pos rfl];exact .inr ⟨i,o,rfl,GK,ho,.inr ⟨rfl,GK⟩⟩
  ·rw[if_neg e];rcases h.low j hj with h1|⟨p,q,h1,h2,h3,h4⟩
   ·exact .inl h1
   ·exact .inr ⟨p,q,h1,h2,h3,GK⟩
 ·by_cases e:p=i/\q=o
  ·obtain⟨rfl,rfl⟩:=e;exact⟨kn,GK,GK,iK,by rw[J7 eG,if_pos rfl]⟩
  ·obtain⟨j,h1,h2,h3,h4⟩:=h.set p q GK hp hq;refine⟨j,h1,h2,h3,?_⟩;rw[J7 eG,if_neg ?_,h4];rintro rfl;rw[h4]at hu;dsimp only at hu;omega
 ·rw[gR,<- List.append_assoc,tN,h.pN j hj,J7 eG];by_cases e:kn=j
  ·subst e;rw[if_neg GK,if_pos rfl,if_pos PW];simp
  ·have hb:((kn:Int)==(j:Int))=false:=by rw[beq_eq_false_iff_ne];omega
   rw[if_neg e,List.count_singleton,hb];rfl
def aeg{P:List Nd}{i:Nat}(hi:i<P.length):P.take (i+1)=P.take i++[nd P i]:=eu hi
def UI.next{P:List Nd}{i:Nat}{up:dH}(h:UI P i (nd P i).kids.length up)(hi:i<P.length):UI P (i+1) 0 up where
 len:=h.len
 low j hj:=by
  rcases h.low j hj with h1|⟨p,q,h1,h2,h3,h4⟩
  ·exact .inl h1
  ·exact .inr ⟨p,q,h1,h2,h3,GK⟩
 set p q yI hp hq:=h.set p q (by
  by_cases e:p=i
  ·subst e;exact .inr ⟨rfl,hq⟩
  ·omega) hp hq
 pN j hj:=by
  rw[mD,nL,aeg hi,MF,<- h.pN j hj,wG]
def UI.kids{P:List Nd}{i:Nat}(hi:i<P.length){up:dH}(h:UI P i 0 up):∀ o u,o<=(nd P i).kids.length->oE P.length i (nd P i).kids up o=some u->UI P i o u:=by
 intro o
 induction o with
 |zero=>intro u _ hu;cases hu;exact h
 |succ o ih =>
  intro u ho hu;unfold oE at hu;obtain⟨v,hv,hu⟩:=Ar.1 hu;by_cases hc:ln P.length i ((nd P i).kids.getD o 0)=true/\(ew v ((nd P i).kids.getD o 0).toNat).1<0
  ·rw[if_pos hc]at hu;cases hu;exact(ih v GK hv).kid hi GK hc.1 hc.2
  ·rw[if_neg hc]at hu;cases hu
def Pz{m:ah}{x:Nd}(h:mg m x=true)(hc:x.cls = -1):x.kids.length=0:=by
 unfold mg at h;rw[if_pos hc,decide_eq_true_eq]at h;exact h.1
def UI.node{m:ah}{P:List Nd}{i:Nat}(hi:i<P.length){up u:dH}(h:UI P i 0 up)(hu:o5 m P i up=some u):UI P (i+1) 0 u:=by
 unfold o5 at hu;split at hu
 ·cases hu
 split at hu
 ·cases hu
 rename_i h1 h2;rw[GQ]at h2;split at hu
 ·rename_i h3;cases hu;have:=Pz h2 h3;refine UI.next ?_ hi;rw[this];exact h
 split at hu
 ·cases hu
 exact(UI.kids hi h _ _ (aY _) hu).next hi
def Ao{m:ah}{P:List Nd}:∀ i u,i<=P.length->mA m P i=some u->UI P i 0 u:=by
 intro i
 induction i with
 |zero=>intro u _ hu;cases hu;exact UI.zero P
 |succ i ih =>
  intro u hi hu;unfold mA at hu;obtain⟨v,hv,hu⟩:=Ar.1 hu;exact(ih v GK hv).node GK hu
def UI.lt{P:List Nd}{i o:Nat}{up:dH}(h:UI P i o up){k:Nat}(hk:k<P.length)(h0:0<=(ew up k).1):(ew up k).1.toNat<k:=by
 rcases h.low k hk with h1|⟨p,q,h1,h2,h3,h4⟩
 ·rw[h1]at h0;exact absurd h0 GS
 ·rw[h1];simpa using h2
def an'{P:List Nd}{i o:Nat}{up:dH}(h:UI P i o up):∀ k,k<P.length->∀ f g,k+1<=f->k+1<=g->B8 up f k=B8 up g k:=by
 intro k
 induction k using Nat.strongRecOn with
 |_ k ih =>
  intro hk f g hf hg;obtain⟨f,rfl⟩:∃f',f=f'+1:=⟨f-1,GK⟩;obtain⟨g,rfl⟩:∃g',g=g'+1:=⟨g-1,GK⟩;show(if 0<=(ew up k).1 then ew up k::B8 up f (ew up k).1.toNat else [])=(if 0<=(ew up k).1 then ew up k::B8 up g (ew up k).1.toNat else []);by_cases h0:0<=(ew up k).1
  ·have hl:=h.lt hk h0;rw[if_pos h0,if_pos h0,ih _ hl GK f g GK GK]
  ·rw[if_neg h0,if_neg h0]
def DK{P:List Nd}{i o:Nat}{up:dH}(h:UI P i o up){k:Nat}(hk:k<P.length):
  lA up k=if 0<=(ew up k).1 then ew up k::lA up (ew up k).1.toNat else []:=by
 show(if 0<=(ew up k).1 then ew up k::B8 up k (ew up k).1.toNat else [])=_;by_cases h0:0<=(ew up k).1
 ·have hl:=h.lt hk h0;rw[if_pos h0,if_pos h0];congr 1;exact an' h _ GK _ _ GK GK
 ·rw[if_neg h0,if_neg h0]
def an7{m:ah}{P:List Nd}{i:Nat}{up:dH}(hi:i<P.length)(h:mA m P i=some up)(hn:o5 m P i up=none):nJ m P=none:=by
 unfold nJ;split
 ·refine Py (o:=i+1) ?_ _ GK;show(mA m P i).bind _=none;rw[h];exact hn
 ·rfl
def aec{n i:Nat}{kids:List Int}{up u:dH}{o:Nat}(h:oE n i kids up o=some u)(ho:o<kids.length)(hn:¬(ln n i (kids.getD o 0)=true/\(ew u (kids.getD o 0).toNat).1<0)):oE n i kids up kids.length=none:=by
 refine aee (o:=o+1) ?_ _ GK;show(oE n i kids up o).bind _=none;rw[h];show(if _ then _ else _)=_;rw[if_neg hn]
def aed{n i:Nat}{kids:List Int}{up u:dH}{o:Nat}(h:oE n i kids up o=some u)(hn:ln n i (kids.getD o 0)=true/\(ew u (kids.getD o 0).toNat).1<0):oE n i kids up (o+1)=some (u.set (kids.getD o 0).toNat ((i:Int),(o:Int))):=by
 show(oE n i kids up o).bind _=_;rw[h];show(if _ then _ else _)=_;rw[if_pos hn]
def aeh{m:ah}{P:List Nd}{n:Nat}{up:dH}(h:mA m P n=some up):∀ i,i<n->∃ u v,mA m P i=some u/\o5 m P i u=some v:=by
 intro i hi;cases hu:mA m P i with
 |none=>rw[Py hu n GK]at h;cases h
 |some u =>
  cases hv:o5 m P i u with
  |none =>
   have h1:mA m P (i+1)=none:=by
    show(mA m P i).bind _=none;rw[hu];exact hv
   rw[Py h1 n GK]at h;cases h
  |some v=>exact⟨u,v,rfl,hv⟩
def aoa{n i:Nat}{kids:List Int}{up v:dH}(h:oE n i kids up kids.length=some v):∀ k∈kids,ln n i k=true:=by
 intro k hk;obtain⟨o,ho,rfl⟩:=mZ hk;cases hw:oE n i kids up o with
 |none=>rw[aee hw kids.length GK]at h;cases h
 |some w =>
  by_cases hc:ln n i (kids.getD o 0)=true/\(ew w (kids.getD o 0).toNat).1<0
  ·have:=hc.1;rwa [az,bF ho]at this
  ·rw[aec hw ho hc]at h;cases h
def PA{m:ah}{P:List Nd}{i:Nat}{u v:dH}(h:o5 m P i u=some v):
  ¬(0<i/\(ew u i).1<0)/\mg m (nd P i)=true/\((nd P i).cls≠-1->qR P (nd P i).cls (lA u i)=false)/\kL m P.length i (nd P i)=true:=by
 unfold o5 at h;split at h
 ·cases h
 rename_i h1;split at h
 ·cases h
 rename_i h2;rw[GQ]at h2;split at h
 ·rename_i h3;refine⟨h1,h2,λhh=>absurd h3 hh,?_⟩;unfold kL;rw[h2,gK,List.eq_nil_of_length_eq_zero (Pz h2 h3)];rfl
 split at h
 ·cases h
 rename_i h3 h4;refine⟨h1,h2,λ_=>by simpa using h4,?_⟩;unfold kL;rw[h2,gK,fW];exact aoa h
def aei{P:List Nd}(i:Nat)(k:Int):(fi (P.take i)).count k<=(fi P).count k:=by
 conv=>rhs;rw[<- DR i P]
 unfold fi;rw[List.flatMap_append,tN];omega
def Gv{m:ah}{P:List Nd}{up:dH}(h:nJ m P=some up):(1<=P.length/\P.length<=20000)/\mA m P P.length=some up:=by
 unfold nJ at h;split at h
 ·rename_i hs;exact⟨hs,h⟩
 ·cases h
def UI.full{P:List Nd}{up:dH}(h:UI P P.length 0 up)(j:Nat)(hj:j<P.length):(fi P).count (j:Int)=if 0<=(ew up j).1 then 1 else 0:=by
 have:=h.pN j hj;rwa [mD,nL,wG]at this
def DI{m:ah}{P:List Nd}{up:dH}(h:nJ m P=some up):jh m P=true:=by
 obtain⟨hs,hf⟩:=Gv h;have dY:=aeh hf;have jn:=Ao _ _ (aY _) hf;have n9:∀ j,1<=j->j<P.length->(fi P).count (j:Int)=1:=λj h1 h2=>by
  obtain⟨u,v,hu,hv⟩:=dY j h2;have hn:=(PA hv).1;have hc:=(Ao _ _ GK hu).pN j h2;rw[mD,nL,if_pos GK]at hc;have hle:=aei (P:=P) j (j:Int);have hfc:=jn.full j h2;split at hfc<;>omega
 rw[Im hs λi hi=>by obtain⟨u,v,_,hv⟩:=dY i hi;exact(PA hv).2.2.2,Bool.not_eq_true'];rw[List.any_eq_false];intro x hx;obtain⟨j,hj,rfl⟩:=mZ hx;rw[List.length_drop,Bl]at hj;rw[List.getElem_drop];have:=Ik (fi P) (j:=1+j) (show 1+j<P.length by omega);rw[az,bF (by rw[Bl];omega),n9 (1+j) GK GK]at this;rw[lV]at this;rw[this];decide
def aob{P:List Nd}(hd:Down P)(R:dF->Prop)(dV:∀ s o,s.1<P.length->o<(nd P s.1).kids.length->R s->R (ny P s o)):
  ∀ (f:Nat) (s:dF),s.1<P.length->R s->∀ v∈lQ P f s,R v:=by
 intro f
 induction f with
 |zero=>intro s _ _ v hv;exact absurd hv (by simp[lQ])
 |succ f ih =>
  intro s hs hr v hv;rw[lQ]at hv;rcases List.mem_cons.1 hv with rfl|hv
  ·exact hr
  ·obtain⟨t,ht,hv⟩:=List.mem_flatMap.1 hv;obtain⟨o,ho,rfl⟩:=wX (List.mem_reverse.1 ht);exact ih _ (yB hd hs ho).2.1 (dV s o hs ho hr) v hv
def p7(P:List Nd)(l:dH)(x:List (List Bool)):List (List Bool):=l.foldl (λacc a=>gZ acc (nd P a.1.toNat).cls.toNat a.2.toNat) x
def Gx(m:ah)(P:List Nd)(u:dH)(s:dF):Prop:=(lA u s.1).map (λa=>(nd P a.1.toNat).cls)=s.2.2.reverse/\s.2.1=p7 P (lA u s.1).reverse (cI m)
def J8{m:ah}{P:List Nd}(hd:Down P){i:Nat}{u:dH}(h:UI P i 0 u)(h0:0<P.length):∀ v∈vs P (root m),v.1<=i->Gx m P u v:=by
 refine aob hd (λs=>s.1<=i->Gx m P u s) ?_ _ (root m) h0 ?_
 ·intro s o hs ho hr hle;obtain⟨h1,h2,h3⟩:=yB hd hs ho;obtain⟨r1,r2⟩:=hr GK;obtain⟨j,LF,zu,hj3,hj4⟩:=h.set s.1 o (.inl GK) hs ho;have e:(ny P s o).1=j:=GK;unfold Gx;rw[e,DK h LF,hj4,if_pos PW];dsimp only;rw[c7];refine⟨?_,?_⟩
  ·rw[List.map_cons,r1];show _=(s.2.2++[(nd P s.1).cls]).reverse;rw[List.reverse_append];rfl
  ·unfold p7;rw[List.reverse_cons,List.foldl_append];show gZ s.2.1 _ _=_;rw[r2];rfl
 ·intro _;have vv:ew u 0=(-1,0):=by
   rcases h.low 0 h0 with h1|⟨p,q,h1,h2,_⟩
   ·exact h1
   ·omega
  unfold Gx;rw[DK h (show(root m).1<P.length from h0)];show _/\_;have:(ew u (root m).1)=(-1,0):=vv;rw[this,if_neg GS];exact⟨rfl,rfl⟩
def PD{m:ah}{P:List Nd}{u:dH}{s:dF}(h:Gx m P u s)(c:Int):qR P c (lA u s.1)=s.2.2.contains c:=by
 have h1:qR P c (lA u s.1)=((lA u s.1).map λa=>(nd P a.1.toNat).cls).any (· == c):=by
  unfold qR;rw[List.any_map];rfl
 rw[h1,h.1,List.any_reverse,Bool.eq_iff_iff,List.any_eq_true,List.contains_iff_mem];constructor
 ·rintro⟨x,hx,e⟩;rw[beq_iff_eq]at e;subst e;exact hx
 ·exact λhx=>⟨c,hx,GM⟩
def aej{m:ah}{P:List Nd}(h:jh m P=true){j:Nat}(hj:j<P.length):∃v∈vs P (root m),v.1=j:=by
 have:=aaO h (s:=root m) rfl j hj;have hm:j∈(vs P (root m)).map (·.1):=by
  rw[<- Qe];omega
 obtain⟨v,hv,e⟩:=bW.1 hm;exact⟨v,hv,e⟩
def aod{m:ah}{P:List Nd}(h:jh m P=true)(hn:nJ m P=none):∃v∈vs P (root m),v.2.2.contains (nd P v.1).cls=true:=by
 have hl:=xy h;have hd:=wY h;have ig :∃i u,i<P.length/\mA m P i=some u/\o5 m P i u=none:=by
  refine Classical.byContradiction λkE=>?_;have dY:∀ i,i<=P.length->∃ u,mA m P i=some u:=by
   intro i
   induction i with
   |zero=>exact λ_=>⟨_,rfl⟩
   |succ i ih =>
    intro hi;obtain⟨u,hu⟩:=ih GK;cases hv:o5 m P i u with
    |none=>exact absurd ⟨i,u,GK,hu,hv⟩ kE
    |some v =>
     refine⟨v,?_⟩;show(mA m P i).bind _=_;rw[hu];exact hv
  obtain⟨u,hu⟩:=dY _ (aY _);unfold nJ at hn;rw[if_pos hl,hu]at hn;cases hn
 obtain⟨i,u,hi,hu,hv⟩:=ig;have jn:=Ao i u GK hu;obtain⟨v,cP,PE⟩:=aej h hi;refine⟨v,cP,?_⟩;have kF:=J8 hd jn GK v cP GK;rw[<- PD kF,PE];have xq:=Fq h hi;unfold kL at xq;rw[Bool.and_eq_true,fW]at xq;unfold o5 at hv;split at hv
 ·rename_i hp;obtain⟨p,yM,yO,_⟩:=aaM h (show 1<=i by omega) hi;have:i∈kN P p:=by rw[<- Qe];omega
  unfold kN at this;obtain⟨k,hk,e⟩:=bW.1 this;obtain⟨q,hq,rfl⟩:=mZ hk;obtain⟨j,h1,h2,h3,h4⟩:=jn.set p q (.inl yM) GK hq;rw[az,bF hq,lV]at h3;rw[h3,c7]at e;subst e;rw[h4]at hp;exact absurd hp.2 PW
 split at hv
 ·rename_i h2;rw[xq.1]at h2;cases h2
 split at hv
 ·cases hv
 split at hv
 ·assumption
 exfalso;have aoe:∀ o,o<=(nd P i).kids.length->∃ w,oE P.length i (nd P i).kids u o=some w:=by
  intro o
  induction o with
  |zero=>exact λ_=>⟨_,rfl⟩
  |succ o ih =>
   intro ho;obtain⟨w,hw⟩:=ih GK;have BA:=xq.2 _ (aF (l:=(nd P i).kids) (i:=o) (d:=0) GK);refine⟨_,aed hw ⟨BA,?_⟩⟩;unfold ln at BA;rw[decide_eq_true_eq]at BA;have hwi:=UI.kids hi jn o w GK hw;have gR:(nd P i).kids.take (o+1)=(nd P i).kids.take o++[(nd P i).kids.getD o 0]:=eu GK;generalize iK:(nd P i).kids.getD o 0=k at *;obtain⟨kn,rfl⟩:∃kn:Nat,k=kn:=⟨k.toNat,GK⟩;rw[c7];refine Classical.byContradiction λgd=>?_;have hc:=hwi.pN kn GK;rw[if_pos GK]at hc;have h1:=aaL h (j:=kn) GK GK;have h2:(fi (P.take (i+1))).count (kn:Int)<=(fi P).count (kn:Int):=aei _ _;rw[aeg hi,MF,tN]at h2;have h3:((nd P i).kids.take (o+1)).count (kn:Int)<=(nd P i).kids.count (kn:Int):=by
    conv=>rhs;rw[<- DR (o+1) (nd P i).kids]
    rw[tN];omega
   rw[gR,tN]at h3;rw[tN]at hc;have h4:([(kn:Int)]:List Int).count (kn:Int)=1:=GM;omega
 obtain⟨w,hw⟩:=aoe _ (aY _);rw[hw]at hv;cases hv
end T

