import Derived.Test.YtfoopmojjjpapaaGreatX21
set_option linter.all false
set_option maxHeartbeats 0
set_option maxRecDepth 20000
open List renaming mem_cons→bj,not_mem_nil→gU,range→bn,getD_eq_getElem?_getD→aB,getElem?_map→b9,getElem?_range→qQ,ext_getElem?→qS,getElem?_eq_none→gj,all_eq_true→gH,mem_range→oV,getElem?_eq_getElem→bT,getElem?_set_ne→gV,length_set→bK,mem_singleton→cU,mem_append→cC
open Option renaming map_some→gY
open Bool renaming eq_false_iff→Cs,false_and→pU,true_and→iu
open Go Go.Am
namespace T
structure Nd where
 cls:Int
 kids:List Int
 ew:List Mv
 bh:List Int
 cells:List (List (Int×Int))
 deriving Inhabited
def rp(l:List (Int×Int)):List AV:=[.tree 2 (rowsOf dm l)]
instance:Row rp 1:=⟨λ_=>rfl,λx v hv=>by
 simp only[rp,bj,gU,or_false]at hv;subst hv;exact .inr ⟨_,_,rfl⟩⟩
def bz(x:Nd):List AV:=[N0 x.cls,.tree 1 (ints x.kids),.tree 4 (rowsOf aO x.ew),.tree 1 (ints x.bh),.tree 1 (rowsOf rp x.cells)]
instance:Row bz 5:=⟨λ_=>rfl,λx v hv=>by
 simp only[bz,bj,gU,or_false]at hv;rcases hv with rfl|rfl|rfl|rfl|rfl
 ·exact .inl ⟨_,rfl,rfl⟩
 all_goals exact .inr ⟨_,_,rfl⟩⟩
def cJ(P:List Nd):List AV:=[.tree 5 (rowsOf bz P)]
structure PB(P:List Nd):Prop where
 Kx:P.length<9223372036854775808
 kids:∀ x∈P,x.kids.length<9223372036854775808
 ew:∀ x∈P,x.ew.length<9223372036854775808
 bh:∀ x∈P,x.bh.length<9223372036854775808
 cells:∀ x∈P,x.cells.length<9223372036854775808
 cell:∀ x∈P,∀ l∈x.cells,l.length<9223372036854775808
def rC(m:ah)(x:Nd):Bool :=
 if x.cls = -1 then decide (x.kids.length=0/\(x.bh.length=0->x.cells.length=0)/\(0<x.bh.length->x.ew.length=0))
 else decide (0<=x.cls/\x.cls<m.cls.length/\x.kids.length=(m.cls.getD x.cls.toNat default).length/\x.ew.length=0/\x.bh.length=0/\x.cells.length=0)
def uC(n i:Nat)(k:Int):Bool:=decide ((i:Int)<k/\k<n)
def mz(m:ah)(n i:Nat)(x:Nd):Bool:=rC m x&&x.kids.all (uC n i)
def jC(P:List Nd):List Int:=P.flatMap (·.kids)
def jQ(n:Nat)(l:List Int):List Int:=(bn n).map λ(j:Nat)=>(l.count (j:Int):Int)
def lY(m:ah)(P:List Nd):Bool :=
 decide (1<=P.length/\P.length<=20000)&&((bn P.length).all λi=>mz m P.length i (P.getD i default))&&!((jQ P.length (jC P)).drop 1).any (λx=>x != 1)
def GA(n:Nat)(l:List Int):(jQ n l).length=n:=by simp[jQ]
def Wd{n:Nat}(l:List Int){j:Nat}(h:j<n):(jQ n l).getD j 0=(l.count (j:Int):Int):=by
 unfold jQ;rw[aB,b9,qQ h];rfl
def afv(n:Nat)(l:List Int)(k:Nat)(h:k<n):jQ n (l++[(k:Int)])=(jQ n l).set k ((jQ n l).getD k 0+1):=by
 apply qS;intro j;rw[List.getElem?_set,Wd l h];unfold jQ;rw[b9,List.length_map,List.length_range];by_cases hj:j<n
 ·rw[qQ hj,gY,List.count_append];by_cases e:k=j
  ·subst e;rw[if_pos rfl,if_pos h];simp
  ·rw[if_neg e,b9,qQ hj,gY];have:((k:Int)==(j:Int))=false:=by rw[beq_eq_false_iff_ne];omega
   simp[List.count_cons,this]
 ·rw[gj (by simpa using hj)];split
  ·omega
  ·rw[gj (by simpa using hj)];rfl
def afw(n:Nat):jQ n []=List.replicate n 0:=by
 apply qS;intro j;unfold jQ;rw[b9,List.getElem?_replicate];by_cases hj:j<n
 ·rw[qQ hj,if_pos hj];rfl
 ·rw[gj (by simpa using hj),if_neg hj];rfl
def Ky{m:ah}{x:Nd}(hm:VM m)(h:rC m x=true):x.kids.length<=24:=by
 unfold rC at h;split at h
 ·rw[decide_eq_true_eq]at h;omega
 ·rw[decide_eq_true_eq]at h;have:=hm.opt _ (aG (l:=m.cls) (i:=x.cls.toNat) (d:=default) Ix);omega
def We{m:ah}{n:Nat}(hm:VM m):∀ (P:List Nd),(∀ x∈P,rC m x=true)->(jC P).length<=24*P.length
 |[],_=>by simp[jC]
 |x::r,h=>by
  have h1:=Ky hm (h x Iy);have h2:=We (n:=n) hm r λy hy=>h y (by simp[hy]);unfold jC at h2 ⊢;rw[List.flatMap_cons,List.length_append,List.length_cons];omega
def afx{n:Nat}{l:List Int}{j:Nat}(h:j<n):0<=(jQ n l).getD j 0/\(jQ n l).getD j 0<=l.length:=by
 rw[Wd l h];have:=List.count_le_length (a:=(j:Int)) (l:=l);omega
def afy(P:List Nd)(x:Nd):jC (P++[x])=jC P++x.kids:=by unfold jC;rw[List.flatMap_append];simp
def Wf{m:ah}{P:List Nd}{i:Nat}(hi:i<P.length)(h:mz m P.length i (P.getD i default)=false):lY m P=false:=by
 unfold lY;have:((bn P.length).all λi=>mz m P.length i (P.getD i default))=false:=by
  rw[Cs];intro h2;rw[gH]at h2;rw[h2 i (oV.2 hi)]at h;cases h
 rw[this,Bool.and_false,pU]
def Wg{m:ah}{P:List Nd}(h:¬(1<=P.length/\P.length<=20000)):lY m P=false:=by
 unfold lY;rw[decide_eq_false h,pU,pU]
def Wh{m:ah}{P:List Nd}(h:1<=P.length/\P.length<=20000)(ha:∀ i,i<P.length->mz m P.length i (P.getD i default)=true):lY m P = !((jQ P.length (jC P)).drop 1).any (λx=>x != 1):=by
 unfold lY;have:((bn P.length).all λi=>mz m P.length i (P.getD i default))=true:=by
  rw[gH];intro i hi;exact ha i (oV.1 hi)
 rw[this,decide_eq_true h,iu,iu]
def Wi:∀ (l:List Int) (i:Nat) (x:Int),i<l.length->j8 (l.set i x)=j8 l-l.getD i 0+x
 |[],i,x,h=>by simp at h
 |y::r,0,x,_=>by simp only[List.set_cons_zero,j8,List.getD_cons_zero];omega
 |y::r,i+1,x,h=>by
  have:=Wi r i x (by simpa using h);simp only[List.set_cons_succ,j8,List.getD_cons_succ];omega
structure Rel(R:Int)(out:List Int)(s:SC)(n:Nat):Prop where
 ok:ln R out
 b0:0<=s.1
 c0:0<=s.2/\s.2<=1048576*n
 eq:s.1=0->j8 out=s.2
 ff:0<s.1->1099511627776∈out
def Rel.mono{R:Int}{out:List Int}{s:SC}{n k:Nat}(h:Rel R out s n)(hk:n<=k):Rel R out s k :=
 ⟨h.ok,h.b0,by have:=h.c0;omega,h.eq,h.ff⟩
def Rel.add{R:Int}{out:List Int}{s:SC}{n k:Nat}(h:Rel R out s n){r d c t:Int}(hr:0<=r/\r<R)(ht:0<=t)(hc:(c=1099511627776/\d=if 0<t then 1099511627776 else 0)\/(c≠1099511627776/\d=c*t/\0<=d/\d<=1048576*k))(hb:n+k<1048576):
  Rel R (ij out r d) (Dq s c t) (n+k):=by
 have eP:bM d:=by
  unfold bM;rcases hc with⟨_,h⟩|⟨_,_,h1,h2⟩
  ·rw[h];split<;>omega
  ·omega
 have hlen:=h.ok.1;have hi:r.toNat<out.length:=Ix;have hg:=h.ok.get r.toNat;have cH:=aG (d:=(0:Int)) hi;have hs:=Kz h.ok.2 _ cH;have iL:=Wi out r.toNat (dZ (out.getD r.toNat 0) d) hi;have mR:=h.c0;have pk:=h.b0;have KA:dZ (out.getD r.toNat 0) d∈ij out r d:=by
  unfold ij;have:(out.set r.toNat (dZ (out.getD r.toNat 0) d)).getD r.toNat 0=dZ (out.getD r.toNat 0) d:=by
   rw[aB,List.getElem?_set_self hi];rfl
  have qz:=aG (l:=out.set r.toNat (dZ (out.getD r.toNat 0) d)) (i:=r.toNat) (d:=0) (by simpa using hi);rwa [this]at qz
 have Wj:1099511627776∈out->1099511627776∈ij out r d:=by
  intro hm;obtain⟨j,hj,Wl⟩:=List.mem_iff_getElem.1 hm;by_cases Wm:r.toNat=j
  ·subst Wm;have:out.getD r.toNat 0=1099511627776:=by rw[aB,bT hj];exact Wl
   rw[this]at KA;have e:dZ 1099511627776 d=1099511627776:=by unfold bM at eP;unfold dZ;omega
   rwa [e]at KA
  ·have:(ij out r d).getD j 0=1099511627776:=by
    unfold ij;rw[aB,gV Wm,bT hj];exact Wl
   have qz:=aG (l:=ij out r d) (i:=j) (d:=0) (by unfold ij;simpa using hj);rwa [this]at qz
 unfold bM at hg eP;rcases hc with⟨KB,hd⟩|⟨KB,hd,hd0,hdk⟩
 ·unfold Dq;rw[if_pos KB];refine⟨h.ok.add (by unfold bM;exact eP),NQ,NQ,λhz=>?_,λhz=>?_⟩
  ·dsimp only at hz ⊢;have:d=0:=by rw[hd,if_neg Ix]
   rw[<- h.eq Ix];unfold ij;rw[iL];unfold dZ;omega
  ·dsimp only at hz;by_cases htz:0<t
   ·have:dZ (out.getD r.toNat 0) d=1099511627776:=by rw[hd,if_pos htz];unfold dZ;omega
    rwa [this]at KA
   ·exact Wj (h.ff Ix)
 ·unfold Dq;rw[if_neg KB,<- hd];refine⟨h.ok.add (by unfold bM;exact eP),NQ,NQ,λhz=>?_,λhz=>?_⟩
  ·dsimp only at hz ⊢;have he:=h.eq hz;unfold ij;rw[iL];unfold dZ;omega
  ·exact Wj (h.ff hz)
def w9(m:ah)(a x b y:Int)(p:Pr):Bool:=decide (p.fst=a/\p.snd=b/\zM m p x y=1099511627776)
def GC(m:ah)(a x b y:Int):Bool:=if b<a then m.ae.any (w9 m b y a x) else m.ae.any (w9 m a x b y)
structure CI(m:ah)(plan out mv:List Int):Prop where
 fp:FP m out
 nd:mv.Nodup
 rg:∀ x∈mv,0<=x/\x<out.length
 un:∀ y:Nat,y<out.length->¬ (y:Int)∈mv->out.getD y 0=plan.getD y 0
def KC:∀ {n:Nat} {l:List Int},l.Nodup->(∀ x∈l,0<=x/\x<n)->l.length<=n
 |0,l,h,hr=>by
  cases l with
  |nil=>simp
  |cons x r=>have:=hr x Iy;omega
 |n+1,l,h,hr=>by
  by_cases hm:(n:Int)∈l
  ·have h1:=List.length_erase_of_mem hm;have h2:=KC (n:=n) (h.erase (n:Int)) λx hx=>by
    have h3:=(List.Nodup.mem_erase_iff h).1 hx;have:=hr x h3.2;omega
   omega
  ·have:=KC (n:=n) h λx hx=>by
    have:=hr x hx;have:x≠n:=λe=>hm (e▸hx);omega
   omega
def CI.len{m:ah}{plan out mv:List Int}(h:CI m plan out mv):mv.length<=out.length:=KC h.nd h.rg
def CI.step{m:ah}{plan out mv:List Int}(h:CI m plan out mv){y:Nat}(hy:y<out.length)(hm:¬ (y:Int)∈mv){o:Int}(ho:jl m (y:Nat) o=true):CI m plan (out.set y o) (mv++[(y:Int)]):=by
 refine⟨?_,?_,?_,?_⟩
 ·refine⟨by rw[bK];exact h.fp.len,λj hj=>?_⟩;rw[bK]at hj;by_cases e:y=j
  ·subst e;rw[aB,List.getElem?_set_self hj];exact ho
  ·rw[aB,gV e,<- aB];exact h.fp.get j hj
 ·rw[List.nodup_append];refine⟨h.nd,Iy,λa ha b hb=>?_⟩;rw[cU]at hb;subst hb;intro e;subst e;exact hm ha
 ·intro x hx;rw[bK];rcases cC.1 hx with hx|hx
  ·exact h.rg x hx
  ·rw[cU.1 hx];omega
 ·intro j hj hn;rw[bK]at hj;rw[cC,not_or,cU]at hn;rw[aB,gV Ix,<- aB];exact h.un j hj hn.1
def CI.start{m:ah}{plan:List Int}(hp:FP m plan){c:Nat}{o:Int}(ho:jl m (c:Nat) o=true):CI m plan (plan.set c o) [(c:Int)]:=by
 have hc:c<plan.length:=by have:=kR.1 ho;have:=hp.len;omega
 have h0:CI m plan plan []:=⟨hp,Iy,Iy,λ_ _ _=>rfl⟩;exact h0.step hc Iy ho
def pA(c o:Int)(y:Int×Int):Bool:=decide (y=(c,o))
def Dr(m:ah)(a b:Int×Int):Bool:=decide (a.1=b.1)||GC m a.1 a.2 b.1 b.2
def zQ(m:ah)(g:List Int)(l:List (Int×Int))(i:Nat):Bool:=g.contains (l.getD i default).1&&jl m (l.getD i default).1 (l.getD i default).2&&(l.take i).all (Dr m (l.getD i default))
def vI(m:ah)(g:List Int)(l:List (Int×Int)):Bool:=(bn l.length).all (zQ m g l)
def Ds(m:ah)(g:List Int):Bool:=(bn g.length).all λi=>decide (0<=g.getD i 0/\g.getD i 0<m.cls.length/\(i=0\/g.getD (i-1) 0<g.getD i 0))
def zR(left:List (List Bool))(cells:List (List (Int×Int)))(c:Int):Bool :=
 (bn (left.getD c.toNat default).length).all λo=>!(left.getD c.toNat default).getD o false||cells.any λl=>l.any (pA c o)
def pB(m:ah)(x:Nd)(left:List (List Bool)):Bool :=
 Ds m x.bh&&decide (x.cells.length<x.bh.length)&&x.cells.all (vI m x.bh)&&x.bh.all (zR left x.cells)
def GD{n:Nat}{f:Nat->Bool}:(bn n).all f=true↔∀ i,i<n->f i=true:=by
 rw[gH];exact⟨λh i hi=>h i (oV.2 hi),λh i hi=>h i (oV.1 hi)⟩
def all_false{α:Type}{l:List α}{f:α->Bool}{x:α}(hx:x∈l)(h:f x=false):l.all f=false:=by
 rw[Cs];intro h2;rw[gH]at h2;rw[h2 x hx]at h;cases h
def KD{n:Nat}{f:Nat->Bool}{i:Nat}(hi:i<n)(h:f i=false):(bn n).all f=false:=all_false (oV.2 hi) h
def afA{m:ah}{g:List Int}(h:Ds m g=true):∀ c∈g,0<=c/\c<m.cls.length:=λc hc=>by
 obtain⟨i,hi,rfl⟩:=List.getElem_of_mem hc;have:=GD.1 h i hi;rw[decide_eq_true_eq,aB,bT hi]at this;exact⟨this.1,this.2.1⟩
def Wn{α:Type}(f:α->Bool):∀ (l:List α),(l.any λx=>!f x) = !l.all f
 |[]=>rfl
 |x::r=>by rw[List.any_cons,List.all_cons,Wn f r,Bool.not_and]
def afB{m:ah}{x:Nd}{left:List (List Bool)}(h:Ds m x.bh=false):pB m x left=false:=by unfold pB;rw[h];rfl
def afC{m:ah}{x:Nd}{left:List (List Bool)}(h:¬x.cells.length<x.bh.length):pB m x left=false:=by unfold pB;rw[decide_eq_false h];simp
def afD{m:ah}{x:Nd}{left:List (List Bool)}(h:x.cells.all (vI m x.bh)=false):pB m x left=false:=by unfold pB;rw[h];simp
def afE{m:ah}{x:Nd}{left:List (List Bool)}(h:x.bh.all (zR left x.cells)=false):pB m x left=false:=by unfold pB;rw[h];simp
def afF{m:ah}{x:Nd}{left:List (List Bool)}(h1:Ds m x.bh=true)(h2:x.cells.length<x.bh.length)(h3:x.cells.all (vI m x.bh)=true)(h4:x.bh.all (zR left x.cells)=true):pB m x left=true:=by unfold pB;rw[h1,decide_eq_true h2,h3,h4];rfl
end T

