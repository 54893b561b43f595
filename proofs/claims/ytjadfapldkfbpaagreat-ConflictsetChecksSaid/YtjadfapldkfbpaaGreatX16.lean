import Derived.Test.YtjadfapldkfbpaaGreatX15
set_option linter.all false
set_option maxHeartbeats 0
set_option maxRecDepth 20000
open List renaming mem_cons→cu,not_mem_nil→jQ,range→aZ,getD_eq_getElem?_getD→aG,getElem?_map→b6,getElem?_range→lT,ext_getElem?→jR,getElem?_eq_none→ei,all_eq_true→gV,mem_range→mi,getD_cons_succ→gN,getElem?_set_self→P0,mem_iff_getElem→tq,getElem?_eq_getElem→bT,getElem?_set_ne→bM,length_set→bw,mem_singleton→ec,mem_append→cz
open Option renaming map_some→fE
open Bool renaming eq_false_iff→BW,false_and→jE,true_and→eX
open Go Go.Am
namespace T
structure Nd where
 cls:Int
 kids:List Int
 cR:List Mv
 bh:List Int
 cells:List (List (Int×Int))
 deriving Inhabited
def rN(l:List (Int×Int)):List AV:=[.tree 2 (rowsOf aK l)]
instance:Row rN 1:=⟨λ_=>rfl,λx v hv=>by
 simp only[rN,cu,jQ,or_false]at hv;subst hv;exact .inr ⟨_,_,rfl⟩⟩
def az(x:Nd):List AV:=[aaa x.cls,.tree 1 (ints x.kids),.tree 4 (rowsOf bN x.cR),.tree 1 (ints x.bh),.tree 1 (rowsOf rN x.cells)]
instance:Row az 5:=⟨λ_=>rfl,λx v hv=>by
 simp only[az,cu,jQ,or_false]at hv;rcases hv with rfl|rfl|rfl|rfl|rfl
 ·exact .inl ⟨_,rfl,rfl⟩
 all_goals exact .inr ⟨_,_,rfl⟩⟩
def aU(P:List Nd):List AV:=[.tree 5 (rowsOf az P)]
structure PB(P:List Nd):Prop where
 sU:P.length<9223372036854775808
 kids:∀ x∈P,x.kids.length<9223372036854775808
 cR:∀ x∈P,x.cR.length<9223372036854775808
 bh:∀ x∈P,x.bh.length<9223372036854775808
 cells:∀ x∈P,x.cells.length<9223372036854775808
 cell:∀ x∈P,∀ l∈x.cells,l.length<9223372036854775808
def nf(m:ah)(x:Nd):Bool :=
 if x.cls = -1 then decide (x.kids.length=0/\(x.bh.length=0->x.cells.length=0)/\(0<x.bh.length->x.cR.length=0))
 else decide (0<=x.cls/\x.cls<m.cls.length/\x.kids.length=(m.cls.getD x.cls.toNat default).length/\x.cR.length=0/\x.bh.length=0/\x.cells.length=0)
def lX(n i:Nat)(k:Int):Bool:=decide ((i:Int)<k/\k<n)
def lL(m:ah)(n i:Nat)(x:Nd):Bool:=nf m x&&x.kids.all (lX n i)
def gw(P:List Nd):List Int:=P.flatMap (·.kids)
def kf(n:Nat)(l:List Int):List Int:=(aZ n).map λ(j:Nat)=>(l.count (j:Int):Int)
def j4(m:ah)(P:List Nd):Bool :=
 decide (1<=P.length/\P.length<=20000)&&((aZ P.length).all λi=>lL m P.length i (P.getD i default))&&!((kf P.length (gw P)).drop 1).any (λx=>x != 1)
def A0(n:Nat)(l:List Int):(kf n l).length=n:=by simp[kf]
def IS{n:Nat}(l:List Int){j:Nat}(h:j<n):(kf n l).getD j 0=(l.count (j:Int):Int):=by
 unfold kf;rw[aG,b6,lT h];rfl
def ag2(n:Nat)(l:List Int)(k:Nat)(h:k<n):kf n (l++[(k:Int)])=(kf n l).set k ((kf n l).getD k 0+1):=by
 apply jR;intro j;rw[List.getElem?_set,IS l h];unfold kf;rw[b6,List.length_map,List.length_range];by_cases hj:j<n
 ·rw[lT hj,fE,List.count_append];by_cases e:k=j
  ·subst e;rw[if_pos rfl,if_pos h];simp
  ·rw[if_neg e,b6,lT hj,fE];have:((k:Int)==(j:Int))=false:=by rw[beq_eq_false_iff_ne];omega
   simp[List.count_cons,this]
 ·rw[ei (by simpa using hj)];split
  ·omega
  ·rw[ei (by simpa using hj)];rfl
def agZ(n:Nat):kf n []=List.replicate n 0:=by
 apply jR;intro j;unfold kf;rw[b6,List.getElem?_replicate];by_cases hj:j<n
 ·rw[lT hj,if_pos hj];rfl
 ·rw[ei (by simpa using hj),if_neg hj];rfl
def IP{m:ah}{x:Nd}(hm:VM m)(h:nf m x=true):x.kids.length<=24:=by
 unfold nf at h;split at h
 ·rw[decide_eq_true_eq]at h;omega
 ·rw[decide_eq_true_eq]at h;have:=hm.opt _ (aB (l:=m.cls) (i:=x.cls.toNat) (d:=default) G3);omega
def Ym{m:ah}{n:Nat}(hm:VM m):∀ (P:List Nd),(∀ x∈P,nf m x=true)->(gw P).length<=24*P.length
 |[],_=>by simp[gw]
 |x::r,h=>by
  have h1:=IP hm (h x G9);have h2:=Ym (n:=n) hm r λy hy=>h y (by simp[hy]);unfold gw at h2 ⊢;rw[List.flatMap_cons,List.length_append,List.length_cons];omega
def ag1{n:Nat}{l:List Int}{j:Nat}(h:j<n):0<=(kf n l).getD j 0/\(kf n l).getD j 0<=l.length:=by
 rw[IS l h];have:=List.count_le_length (a:=(j:Int)) (l:=l);omega
def MT(P:List Nd)(x:Nd):gw (P++[x])=gw P++x.kids:=by unfold gw;rw[List.flatMap_append];simp
def Yl{m:ah}{P:List Nd}{i:Nat}(hi:i<P.length)(h:lL m P.length i (P.getD i default)=false):j4 m P=false:=by
 unfold j4;have:((aZ P.length).all λi=>lL m P.length i (P.getD i default))=false:=by
  rw[BW];intro h2;rw[gV]at h2;rw[h2 i (mi.2 hi)]at h;cases h
 rw[this,Bool.and_false,jE]
def Yk{m:ah}{P:List Nd}(h:¬(1<=P.length/\P.length<=20000)):j4 m P=false:=by
 unfold j4;rw[decide_eq_false h,jE,jE]
def IQ{m:ah}{P:List Nd}(h:1<=P.length/\P.length<=20000)(ha:∀ i,i<P.length->lL m P.length i (P.getD i default)=true):j4 m P = !((kf P.length (gw P)).drop 1).any (λx=>x != 1):=by
 unfold j4;have:((aZ P.length).all λi=>lL m P.length i (P.getD i default))=true:=by
  rw[gV];intro i hi;exact ha i (mi.1 hi)
 rw[this,decide_eq_true h,eX,eX]
def Yq:∀ (l:List Int) (i:Nat) (x:Int),i<l.length->lz (l.set i x)=lz l-l.getD i 0+x
 |[],i,x,h=>by simp at h
 |y::r,0,x,_=>by simp only[List.set_cons_zero,lz,List.getD_cons_zero];omega
 |y::r,i+1,x,h=>by
  have:=Yq r i x (by simpa using h);simp only[List.set_cons_succ,lz,gN];omega
structure Rel(R:Int)(out:List Int)(s:SC)(n:Nat):Prop where
 ok:je R out
 b0:0<=s.1
 c0:0<=s.2/\s.2<=1048576*n
 eq:s.1=0->lz out=s.2
 ff:0<s.1->1099511627776∈out
def Rel.mono{R:Int}{out:List Int}{s:SC}{n k:Nat}(h:Rel R out s n)(hk:n<=k):Rel R out s k :=
 ⟨h.ok,h.b0,by have:=h.c0;omega,h.eq,h.ff⟩
def Rel.add{R:Int}{out:List Int}{s:SC}{n k:Nat}(h:Rel R out s n){r d c t:Int}(hr:0<=r/\r<R)(ht:0<=t)(hc:(c=1099511627776/\d=if 0<t then 1099511627776 else 0)\/(c≠1099511627776/\d=c*t/\0<=d/\d<=1048576*k))(hb:n+k<1048576):
  Rel R (fI out r d) (E0 s c t) (n+k):=by
 have iV:bZ d:=by
  unfold bZ;rcases hc with⟨_,h⟩|⟨_,_,h1,h2⟩
  ·rw[h];split<;>omega
  ·omega
 have hlen:=h.ok.1;have hi:r.toNat<out.length:=G3;have hg:=h.ok.get r.toNat;have bJ:=aB (d:=(0:Int)) hi;have hs:=Mo h.ok.2 _ bJ;have iq:=Yq out r.toNat (fl (out.getD r.toNat 0) d) hi;have mW:=h.c0;have nJ:=h.b0;have Fj:fl (out.getD r.toNat 0) d∈fI out r d:=by
  unfold fI;have:(out.set r.toNat (fl (out.getD r.toNat 0) d)).getD r.toNat 0=fl (out.getD r.toNat 0) d:=by
   rw[aG,P0 hi];rfl
  have rU:=aB (l:=out.set r.toNat (fl (out.getD r.toNat 0) d)) (i:=r.toNat) (d:=0) (by simpa using hi);rwa [this]at rU
 have Yr:1099511627776∈out->1099511627776∈fI out r d:=by
  intro hm;obtain⟨j,hj,Ys⟩:=tq.1 hm;by_cases Yt:r.toNat=j
  ·subst Yt;have:out.getD r.toNat 0=1099511627776:=by rw[aG,bT hj];exact Ys
   rw[this]at Fj;have e:fl 1099511627776 d=1099511627776:=by unfold bZ at iV;unfold fl;omega
   rwa [e]at Fj
  ·have:(fI out r d).getD j 0=1099511627776:=by
    unfold fI;rw[aG,bM Yt,bT hj];exact Ys
   have rU:=aB (l:=fI out r d) (i:=j) (d:=0) (by unfold fI;simpa using hj);rwa [this]at rU
 unfold bZ at hg iV;rcases hc with⟨MV,hd⟩|⟨MV,hd,MW,Yu⟩
 ·unfold E0;rw[if_pos MV];refine⟨h.ok.add (by unfold bZ;exact iV),Kw,Kw,λhz=>?_,λhz=>?_⟩
  ·dsimp only at hz ⊢;have:d=0:=by rw[hd,if_neg G3]
   rw[<- h.eq G3];unfold fI;rw[iq];unfold fl;omega
  ·dsimp only at hz;by_cases htz:0<t
   ·have:fl (out.getD r.toNat 0) d=1099511627776:=by rw[hd,if_pos htz];unfold fl;omega
    rwa [this]at Fj
   ·exact Yr (h.ff G3)
 ·unfold E0;rw[if_neg MV,<- hd];refine⟨h.ok.add (by unfold bZ;exact iV),Kw,Kw,λhz=>?_,λhz=>?_⟩
  ·dsimp only at hz ⊢;have he:=h.eq hz;unfold fI;rw[iq];unfold fl;omega
  ·exact Yr (h.ff hz)
def Yv{m:ah}:∀ (plan:List Int) (i:Nat),(∀ j,j<plan.length->plan.getD j 0 = -1\/eU m ((i+j:Nat):Int) (plan.getD j 0)=true)->qF m i plan=true
 |[],_,_=>rfl
 |o::r,i,h=>by
  rw[qF,Bool.and_eq_true,Bool.or_eq_true,decide_eq_true_eq];refine⟨by simpa using h 0 G9,Yv r (i+1) λj hj=>?_⟩;have:=h (j+1) (by simpa using hj);rwa [gN,show i+(j+1)=i+1+j by omega]at this
def Yw{m:ah}{plan:List Int}(h:PM m plan):qG m plan=true:=by
 rw[qG,if_neg (by rw[h.len];simp)];exact Yv plan 0 λj hj=>by rw[Nat.zero_add];exact h.get j hj
def Yx{m:ah}{plan:List Int}(hm:VM m)(hp:PM m plan):pd m plan=(mC (mZ m plan) 0,mZ m plan,0):=by
 rw[pd,if_neg (by rw[iu.2 hm];simp),if_neg (by rw[Yw hp];simp)];rfl
def Yy{m:ah}{plan:List Int}(hm:VM m)(hp:FP m plan):pe m plan=0:=by
 unfold pe;rw[if_neg (by rw[iu.2 hm];simp),Yw hp.pm,if_neg];simp only[Bool.not_true,Bool.false_or,Bool.not_eq_true];cases h:plan.contains (-1) with
 |false=>rfl
 |true =>
  obtain⟨j,hj,e⟩:=tq.1 (List.contains_iff_mem.1 h);have:=iv.1 (hp.get j hj);rw[aG,bT hj]at this;simp only[Option.getD_some]at this;omega
def pf(m:ah)(a x b y:Int)(p:Pr):Bool:=decide (p.fst=a/\p.snd=b/\o9 m p x y=1099511627776)
def sV(m:ah)(a x b y:Int):Bool:=if b<a then m.ae.any (pf m b y a x) else m.ae.any (pf m a x b y)
def ag6{m:ah}{a x b y:Int}(h:a≠b):sV m a x b y=sV m b y a x:=by
 unfold sV;by_cases h1:b<a
 ·rw[if_pos h1,if_neg G3]
 ·rw[if_neg h1,if_pos G3]
structure CI(m:ah)(plan out mv:List Int):Prop where
 fp:FP m out
 nd:mv.Nodup
 rg:∀ x∈mv,0<=x/\x<out.length
 un:∀ y:Nat,y<out.length->¬ (y:Int)∈mv->out.getD y 0=plan.getD y 0
def MX:∀ {n:Nat} {l:List Int},l.Nodup->(∀ x∈l,0<=x/\x<n)->l.length<=n
 |0,l,h,hr=>by
  cases l with
  |nil=>simp
  |cons x r=>have:=hr x G9;omega
 |n+1,l,h,hr=>by
  by_cases hm:(n:Int)∈l
  ·have h1:=List.length_erase_of_mem hm;have h2:=MX (n:=n) (h.erase (n:Int)) λx hx=>by
    have h3:=(List.Nodup.mem_erase_iff h).1 hx;have:=hr x h3.2;omega
   omega
  ·have:=MX (n:=n) h λx hx=>by
    have:=hr x hx;have:x≠n:=λe=>hm (e▸hx);omega
   omega
def CI.len{m:ah}{plan out mv:List Int}(h:CI m plan out mv):mv.length<=out.length:=MX h.nd h.rg
def CI.step{m:ah}{plan out mv:List Int}(h:CI m plan out mv){y:Nat}(hy:y<out.length)(hm:¬ (y:Int)∈mv){o:Int}(ho:eU m (y:Nat) o=true):CI m plan (out.set y o) (mv++[(y:Int)]):=by
 refine⟨?_,?_,?_,?_⟩
 ·refine⟨by rw[bw];exact h.fp.len,λj hj=>?_⟩;rw[bw]at hj;by_cases e:y=j
  ·subst e;rw[aG,P0 hj];exact ho
  ·rw[aG,bM e,<- aG];exact h.fp.get j hj
 ·rw[List.nodup_append];refine⟨h.nd,G9,λa ha b hb=>?_⟩;rw[ec]at hb;subst hb;intro e;subst e;exact hm ha
 ·intro x hx;rw[bw];rcases cz.1 hx with hx|hx
  ·exact h.rg x hx
  ·rw[ec.1 hx];omega
 ·intro j hj hn;rw[bw]at hj;rw[cz,not_or,ec]at hn;rw[aG,bM G3,<- aG];exact h.un j hj hn.1
def jz(c o:Int)(y:Int×Int):Bool:=decide (y=(c,o))
def sW(m:ah)(a b:Int×Int):Bool:=decide (a.1=b.1)||sV m a.1 a.2 b.1 b.2
def sX(m:ah)(g:List Int)(l:List (Int×Int))(i:Nat):Bool:=g.contains (l.getD i default).1&&eU m (l.getD i default).1 (l.getD i default).2&&(l.take i).all (sW m (l.getD i default))
def qM(m:ah)(g:List Int)(l:List (Int×Int)):Bool:=(aZ l.length).all (sX m g l)
def CM(m:ah)(g:List Int):Bool:=(aZ g.length).all λi=>decide (0<=g.getD i 0/\g.getD i 0<m.cls.length/\(i=0\/g.getD (i-1) 0<g.getD i 0))
def ue(left:List (List Bool))(cells:List (List (Int×Int)))(c:Int):Bool :=
 (aZ (left.getD c.toNat default).length).all λo=>!(left.getD c.toNat default).getD o false||cells.any λl=>l.any (jz c o)
def mG(m:ah)(x:Nd)(left:List (List Bool)):Bool :=
 CM m x.bh&&decide (x.cells.length<x.bh.length)&&x.cells.all (qM m x.bh)&&x.bh.all (ue left x.cells)
def A3{n:Nat}{f:Nat->Bool}:(aZ n).all f=true↔∀ i,i<n->f i=true:=by
 rw[gV];exact⟨λh i hi=>h i (mi.2 hi),λh i hi=>h i (mi.1 hi)⟩
def all_false{α:Type}{l:List α}{f:α->Bool}{x:α}(hx:x∈l)(h:f x=false):l.all f=false:=by
 rw[BW];intro h2;rw[gV]at h2;rw[h2 x hx]at h;cases h
def CN{n:Nat}{f:Nat->Bool}{i:Nat}(hi:i<n)(h:f i=false):(aZ n).all f=false:=all_false (mi.2 hi) h
def Yz{m:ah}{g:List Int}(h:CM m g=true):∀ c∈g,0<=c/\c<m.cls.length:=λc hc=>by
 obtain⟨i,hi,rfl⟩:=List.getElem_of_mem hc;have:=A3.1 h i hi;rw[decide_eq_true_eq,aG,bT hi]at this;exact⟨this.1,this.2.1⟩
def YA{α:Type}(f:α->Bool):∀ (l:List α),(l.any λx=>!f x) = !l.all f
 |[]=>rfl
 |x::r=>by rw[List.any_cons,List.all_cons,YA f r,Bool.not_and]
def YB{m:ah}{x:Nd}{left:List (List Bool)}(h:CM m x.bh=false):mG m x left=false:=by unfold mG;rw[h];rfl
def YC{m:ah}{x:Nd}{left:List (List Bool)}(h:¬x.cells.length<x.bh.length):mG m x left=false:=by unfold mG;rw[decide_eq_false h];simp
def YD{m:ah}{x:Nd}{left:List (List Bool)}(h:x.cells.all (qM m x.bh)=false):mG m x left=false:=by unfold mG;rw[h];simp
def YE{m:ah}{x:Nd}{left:List (List Bool)}(h:x.bh.all (ue left x.cells)=false):mG m x left=false:=by unfold mG;rw[h];simp
def YF{m:ah}{x:Nd}{left:List (List Bool)}(h1:CM m x.bh=true)(h2:x.cells.length<x.bh.length)(h3:x.cells.all (qM m x.bh)=true)(h4:x.bh.all (ue left x.cells)=true):mG m x left=true:=by unfold mG;rw[h1,decide_eq_true h2,h3,h4];rfl
end T

