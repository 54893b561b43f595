import Derived.Test.YtfoopmojjjpapaaGreatX14
import Derived.Test.YtfoopmojjjpapaaGreatX22
set_option linter.all false
set_option maxHeartbeats 0
set_option maxRecDepth 20000
open List renaming foldl_append→Ay,range→bu,getD_eq_getElem?_getD→az,getElem?_eq_none→dK,mem_or_eq_of_mem_set→su,getElem?_set→bU,length_set→bJ,mem_map→bW,getElem?_map→bI,getElem?_eq_getElem→bF,length_cons→dq,flatMap_append→sv,length_append→bO,length_map→fK,mem_cons→bw,not_mem_nil→iM,getElem?_range→kX,ext_getElem?→kY,replicate→aK,all_eq_true→fW,mem_range→oF,getD_cons_zero→ik,getD_cons_succ→e7
open Nat renaming lt_or_ge→dP,add_mul→gn,add_zero→jq,zero_add→gJ
open Bool renaming and_eq_true→bb,not_eq_true'→kz,eq_false_iff→Cf,false_and→qU,true_and→gK
open Option renaming map_some→eH
open Int renaming add_zero→P9,zero_add→Ax
open Go Go.Am
namespace T
def S0(m:ah):List (List Nm):=m.cls.map λl=>dJ (b9 l)
def T0(m:ah):List (List Nm):=m.ae.map λp=>dJ p.ay
def jQ(r:List Nm)(i:Nat)(a:Int):List Nm:=r.set i ((r.getD i default).1+a,(r.getD i default).2)
def gQ(f:Nat->Nat)(a:Int):Nat->List Nm->List Nm
 |0,t=>t
 |k+1,t=>jQ (gQ f a k t) (f k) (-a)
abbrev Lg:=List (List Nm)×List (List Nm)
def oU(m:ah)(x:Mv):(Nat->Nat)×Nat :=
 if x.side=0 then(λk=>(x.opt*(m.cls.getD (m.ae.getD x.pair.toNat default).snd.toNat default).length+k).toNat,(m.cls.getD (m.ae.getD x.pair.toNat default).snd.toNat default).length)
 else(λk=>((k:Int)*(m.cls.getD (m.ae.getD x.pair.toNat default).snd.toNat default).length+x.opt).toNat,(m.cls.getD (m.ae.getD x.pair.toNat default).fst.toNat default).length)
def j5(m:ah)(x:Mv)(g:Lg):Lg :=
 (g.1.set (eV m x).toNat (jQ (g.1.getD (eV m x).toNat default) x.opt.toNat x.amt),g.2.set x.pair.toNat (gQ (oU m x).1 x.amt (oU m x).2 (g.2.getD x.pair.toNat default)))
def iV(m:ah)(l:List Mv)(g:Lg):Lg:=l.foldl (λg x=>j5 m x g) g
def T'(m:ah)(l:List Mv)(x:Mv)(g:Lg):iV m (l++[x]) g=j5 m x (iV m l g):=by unfold iV;rw[Ay];rfl
def rJ(a b:List Bool):List Bool:=a.flatMap λx=>b.map λy=>x&&y
def PC(left:List (List Bool))(S:List (List Nm))(n:Nat):List (Int×Bool):=(bu n).map λi=>dC (S.getD i default) (left.getD i default) (0,false)
def iI(m:ah)(left:List (List Bool))(i:Nat):List Bool:=rJ (left.getD (m.ae.getD i default).fst.toNat default) (left.getD (m.ae.getD i default).snd.toNat default)
def PP(m:ah)(left:List (List Bool))(T:List (List Nm))(n:Nat):List (Int×Bool):=(bu n).map λi=>dC (T.getD i default) (iI m left i) (0,false)
def PK(m:ah)(left:List (List Bool))(n:Nat):List (Int×Bool):=(bu n).map λi=>(jg left (m.aD.getD i default),!(decide ((m.aD.getD i default).cf=1099511627776)&&decide (0<jg left (m.aD.getD i default))))
def bQ(l:List (Int×Bool))(z:Int×Bool):Int×Bool:=l.foldl (λz p=>(z.1+p.1,z.2||!p.2)) z
def l8(m:ah)(left:List (List Bool))(g:Lg):Int :=
 if(bQ (PK m left m.aD.length) (bQ (PP m left g.2 m.ae.length) (bQ (PC left g.1 m.cls.length) (0,false)))).2=true then 1099511627776
 else min (bQ (PK m left m.aD.length) (bQ (PP m left g.2 m.ae.length) (bQ (PC left g.1 m.cls.length) (0,false)))).1 1099511627776
def gH(m:ah)(left:List (List Bool))(l:List Mv):Int×Int :=
 if 2000<l.length then(0,2) else if l.all (iT m)=false then(0,3) else(l8 m left (iV m l (S0 m,T0 m)),0)
def b8(m:ah)(left:List (List Bool))(l:List Mv):Int×Int:=if lg m left≠0 then(0,lg m left) else gH m left l
def C4(l:List (Int×Bool))(p z:Int×Bool):bQ (l++[p]) z=((bQ l z).1+p.1,(bQ l z).2||!p.2):=by unfold bQ;rw[Ay];rfl
def zM{β:Type}(f:Nat->β)(n:Nat):(bu (n+1)).map f=(bu n).map f++[f n]:=by rw[List.range_succ,List.map_append];rfl
def NB(B:Int)(r:List Nm):Prop:=∀ p∈r,-B<=p.1/\p.1<=B
def NB.get{B:Int}{r:List Nm}(h:NB B r)(hB:0<=B)(i:Nat): -B<=(r.getD i default).1/\(r.getD i default).1<=B:=by
 rcases dP i r.length with hi|hi
 ·exact h _ (aF hi)
 ·rw[az,dK hi];show -B<=(0:Int)/\(0:Int)<=B;omega
def NB.mono{B C:Int}{r:List Nm}(h:NB B r)(hc:B<=C):NB C r:=λp hp=>by have:=h p hp;omega
def NB.add{B:Int}{r:List Nm}(h:NB B r)(hB:0<=B)(i:Nat){a:Int}(ha : -268435456<=a/\a<=268435456):NB (B+268435456) (jQ r i a):=λp hp=>by
 rcases su hp with h'|h'
 ·have:=h p h';omega
 ·have:=h.get hB i;rw[h'];dsimp only;omega
def yr(r:List Nm)(i:Nat)(a:Int):(jQ r i a).length=r.length:=by simp[jQ]
def Bj(f:Nat->Nat)(a:Int):∀ (k:Nat) (t:List Nm),(gQ f a k t).length=t.length
 |0,t=>rfl
 |k+1,t=>by rw[gQ,yr,Bj f a k t]
def NB.sub{B:Int}{r:List Nm}(h:NB B r)(hB:0<=B)(f:Nat->Nat){a:Int}(ha : -268435456<=a/\a<=268435456):∀ k:Nat,NB (B+268435456*k) (gQ f a k r)
 |0=>by simpa [gQ] using h
 |k+1=>by
  rw[gQ];have:=(NB.sub h hB f ha k).add GK (f k) (a:=-a) GK;exact this.mono GK
structure LG(m:ah)(B:Int)(g:Lg):Prop where
 s:g.1.length=m.cls.length
 t:g.2.length=m.ae.length
 sl:∀ i,i<m.cls.length->(g.1.getD i default).length=(m.cls.getD i default).length
 tl:∀ i,i<m.ae.length->(g.2.getD i default).length=(m.ae.getD i default).ay.length
 sb:∀ r∈g.1,NB B r
 tb:∀ r∈g.2,NB B r
def Ua{g:List (List Nm)}{i j:Nat}{r:List Nm}(h:r.length=(g.getD i default).length):((g.set i r).getD j default).length=(g.getD j default).length:=by
 by_cases e:i=j
 ·subst e;rcases dP i g.length with hi|hi
  ·simp only[az,bU,hi,if_true,Option.getD_some];rw[h,az]
  ·rw[List.set_eq_of_length_le hi]
 ·simp only[az,List.getElem?_set_ne e]
def uz{B:Int}{g:List (List Nm)}(h:∀ r∈g,NB B r)(i:Nat):NB B (g.getD i default):=by
 rcases dP i g.length with hi|hi
 ·exact h _ (aF hi)
 ·rw[az,dK hi];intro p hp;cases hp
def ahi{m:ah}(hm:VM m)(x:Mv):(oU m x).2<=24:=by
 have:∀ i,(m.cls.getD i default).length<=24:=λi=>by
  rcases dP i m.cls.length with hi|hi
  ·exact hm.opt _ (aF hi)
  ·rw[az,dK hi];exact Nat.zero_le _
 unfold oU;split<;>exact this _
def TS{m:ah}(hm:VM m){B:Int}(hB:0<=B){g:Lg}(h:LG m B g){x:Mv}(hx:iT m x=true):LG m (B+268435456*25) (j5 m x g):=by
 unfold iT at hx;rw[bb,decide_eq_true_eq]at hx;have ha:=hx.1.2.2.2.2;have hk:=ahi hm x;refine⟨by rw[j5,bJ];exact h.s,by rw[j5,bJ];exact h.t,λi hi=>?_,λi hi=>?_,λr hr=>?_,λr hr=>?_⟩
 ·rw[j5];dsimp only;rw[Ua (by rw[yr])];exact h.sl i hi
 ·rw[j5];dsimp only;rw[Ua (by rw[Bj])];exact h.tl i hi
 ·rcases su hr with h'|h'
  ·exact(h.sb r h').mono GK
  ·rw[h'];exact((uz h.sb _).add hB _ ha).mono GK
 ·rcases su hr with h'|h'
  ·exact(h.tb r h').mono GK
  ·rw[h'];exact((uz h.tb _).sub hB _ ha _).mono GK
def Ub{l:List Int}(h:∀ x∈l,bT x):NB 1099511627776 (dJ l):=λp hp=>by
 obtain⟨x,hx,rfl⟩:=bW.1 hp;have:=h x hx;unfold bT at this;show -1099511627776<=x/\x<=1099511627776;omega
def Ii{m:ah}{p:Pr}(hp:hJ m p=true):∀ x∈p.ay,bT x:=λx hx=>by
 unfold hJ at hp;simp only[bb,kz,List.any_eq_false]at hp;have:=hp.2 _ hx;rw[pK]at this;simp only[bb,kz,decide_eq_true_eq,not_and,Bool.not_eq_false]at this;by_cases hz:x=0
 ·subst hz;unfold bT;decide
 ·exact vK (this hz)
def iS{α β:Type}[Inhabited α][Inhabited β](f:α->β)(l:List α)(i:Nat)(h:i<l.length):(l.map f).getD i default=f (l.getD i default):=by
 rw[az,bI,az,bF h];rfl
def T5{m:ah}(hm:VM m):LG m 1099511627776 (S0 m,T0 m):=by
 refine⟨by simp[S0],by simp[T0],λi hi=>?_,λi hi=>?_,λr hr=>?_,λr hr=>?_⟩
 ·show((S0 m).getD i default).length=_;rw[S0,iS _ _ _ hi];simp[dJ,b9]
 ·show((T0 m).getD i default).length=_;rw[T0,iS _ _ _ hi];simp[dJ]
 ·obtain⟨l,hl,rfl⟩:=bW.1 hr;refine Ub λx hx=>?_;obtain⟨o,ho,rfl⟩:=bW.1 hx;exact EW (hm.sW l hl o ho)
 ·obtain⟨p,hp,rfl⟩:=bW.1 hr;exact Ub (Ii (j6 hm.pr p hp))
def Ib{m:ah}(hm:VM m)(l:List Mv)(hl:∀ x∈l,iT m x=true):LG m (1099511627776+268435456*25*l.length) (iV m l (S0 m,T0 m)):=by
 have key:∀ (l:List Mv) (B:Int) (g:Lg),0<=B->(∀ x∈l,iT m x=true)->LG m B g->LG m (B+268435456*25*l.length) (iV m l g):=by
  intro l
  induction l with
  |nil=>intro B g _ _ h;simpa [iV] using h
  |cons x r ih =>
   intro B g hB hx h;have h1:=TS hm hB h (hx x GM);have h2:=ih _ _ GK (λy hy=>hx y (by simp[hy])) h1;show LG m _ (iV m r (j5 m x g));have e:B+268435456*25+268435456*25*(r.length:Int)=B+268435456*25*((x::r).length:Int):=by simp only[dq];omega
   rw[e]at h2;exact h2
 exact key l _ _ GS hl (T5 hm)
def EZ{B:Int}:∀ (l:List Nm) (s:List Bool) (b:Int×Bool),NB B l->(-B<=b.1/\b.1<=B)->-B<=(dC l s b).1/\(dC l s b).1<=B
 |[],s,b,_,hb=>by cases s<;>exact hb
 |p::r,[],b,_,hb=>hb
 |p::r,is::s,b,h,hb=>by
  rw[dC];refine EZ r s _ (λq hq=>h q (by simp[hq])) ?_;have:=h p GM;split
  ·exact this
  ·exact hb
def zP{B:Int}:∀ (l:List (Int×Bool)) (z:Int×Bool),(∀ p∈l,-B<=p.1/\p.1<=B)->z.1-B*l.length<=(bQ l z).1/\(bQ l z).1<=z.1+B*l.length
 |[],z,_=>by show z.1-_<=z.1/\z.1<=z.1+_;simp
 |p::r,z,h=>by
  have h1:=zP r (z.1+p.1,z.2||!p.2) λq hq=>h q (by simp[hq]);have h2:=h p GM;show _<=(bQ r (z.1+p.1,z.2||!p.2)).1/\_;rw[dq,Int.natCast_add,Int.mul_add];dsimp only at h1;simp only[Int.cast_ofNat_Int,Int.mul_one];show z.1-(B*r.length+B)<=(bQ r (z.1+p.1,z.2||!p.2)).1/\(bQ r (z.1+p.1,z.2||!p.2)).1<=z.1+(B*r.length+B);omega
def mf:Int:=1099511627776+268435456*25*2000
def MC{left:List (List Bool)}{S:List (List Nm)}{B:Int}(hB:0<=B)(h:∀ r∈S,NB B r)(n:Nat):∀ p∈PC left S n,-B<=p.1/\p.1<=B:=λp hp=>by
 obtain⟨i,_,rfl⟩:=bW.1 hp;exact EZ _ _ _ (uz h i) PW
def MD{m:ah}{left:List (List Bool)}{T:List (List Nm)}{B:Int}(hB:0<=B)(h:∀ r∈T,NB B r)(n:Nat):∀ p∈PP m left T n,-B<=p.1/\p.1<=B:=λp hp=>by
 obtain⟨i,_,rfl⟩:=bW.1 hp;exact EZ _ _ _ (uz h i) PW
def Uc(most cf n:Int)(hm:0<=most)(hp:0<=cf):0<=lK most cf n/\lK most cf n<=1099511627776:=by
 unfold lK;split
 ·omega
 ·have:=Int.mul_nonneg (show 0<=n-most by omega) hp;omega
def ahj{m:ah}(hm:VM m)(i:Nat):0<=(m.aD.getD i default).most/\0<=(m.aD.getD i default).cf:=by
 rcases dP i m.aD.length with hi|hi
 ·obtain⟨_,h2,h3,_⟩:=ux (hm.ct _ (aF (d:=default) hi));exact⟨h2.1,(vK h3).1⟩
 ·rw[az,dK hi];decide
def ME{m:ah}(hm:VM m){left:List (List Bool)}(n:Nat):∀ p∈PK m left n,-1099511627776<=p.1/\p.1<=1099511627776:=λp hp=>by
 obtain⟨i,_,rfl⟩:=bW.1 hp;have:=ahj hm i;have:=Uc (m.aD.getD i default).most (m.aD.getD i default).cf (kk (m.aD.getD i default).bh 0 left 0) this.1 this.2;unfold jg;dsimp only;omega
def C5(left:List (List Bool))(S:List (List Nm))(n:Nat):(PC left S n).length=n:=by simp[PC]
def E0(m:ah)(left:List (List Bool))(S:List (List Nm))(n:Nat):(PP m left S n).length=n:=by simp[PP]
def Ij(m:ah)(left:List (List Bool))(n:Nat):(PK m left n).length=n:=by simp[PK]
def ahk(a:List Bool)(x:Bool)(b:List Bool):rJ (a++[x]) b=rJ a b++b.map (x && ·):=by unfold rJ;rw[sv];simp
def EY(b:List Bool):∀ a:List Bool,(rJ a b).length=a.length*b.length
 |[]=>by simp[rJ]
 |x::r=>by
  show((b.map (x && ·))++rJ r b).length=_;rw[bO,EY b r,fK,dq,gn];omega
structure Nd where
 cls:Int
 kids:List Int
 c9:List Mv
 a7:List Int
 cells:List (List (Int×Int))
 deriving Inhabited
def sY(l:List (Int×Int)):List AV:=[.tree 2 (rowsOf bd l)]
instance:Row sY 1:=⟨λ_=>rfl,λx v hv=>by
 simp only[sY,bw,iM,or_false]at hv;subst hv;exact .inr ⟨_,_,rfl⟩⟩
def aB(x:Nd):List AV:=[Qf x.cls,.tree 1 (ints x.kids),.tree 4 (rowsOf aU x.c9),.tree 1 (ints x.a7),.tree 1 (rowsOf sY x.cells)]
instance:Row aB 5:=⟨λ_=>rfl,λx v hv=>by
 simp only[aB,bw,iM,or_false]at hv;rcases hv with rfl|rfl|rfl|rfl|rfl
 ·exact .inl ⟨_,rfl,rfl⟩
 all_goals exact .inr ⟨_,_,rfl⟩⟩
def aJ(P:List Nd):List AV:=[.tree 5 (rowsOf aB P)]
structure PB(P:List Nd):Prop where
 C6:P.length<9223372036854775808
 kids:∀ x∈P,x.kids.length<9223372036854775808
 c9:∀ x∈P,x.c9.length<9223372036854775808
 a7:∀ x∈P,x.a7.length<9223372036854775808
 cells:∀ x∈P,x.cells.length<9223372036854775808
 cell:∀ x∈P,∀ l∈x.cells,l.length<9223372036854775808
def mg(m:ah)(x:Nd):Bool :=
 if x.cls = -1 then decide (x.kids.length=0/\(x.a7.length=0->x.cells.length=0)/\(0<x.a7.length->x.c9.length=0))
 else decide (0<=x.cls/\x.cls<m.cls.length/\x.kids.length=(m.cls.getD x.cls.toNat default).length/\x.c9.length=0/\x.a7.length=0/\x.cells.length=0)
def ln(n i:Nat)(k:Int):Bool:=decide ((i:Int)<k/\k<n)
def kL(m:ah)(n i:Nat)(x:Nd):Bool:=mg m x&&x.kids.all (ln n i)
def fi(P:List Nd):List Int:=P.flatMap (·.kids)
def jR(n:Nat)(l:List Int):List Int:=(bu n).map λ(j:Nat)=>(l.count (j:Int):Int)
def jh(m:ah)(P:List Nd):Bool :=
 decide (1<=P.length/\P.length<=20000)&&((bu P.length).all λi=>kL m P.length i (P.getD i default))&&!((jR P.length (fi P)).drop 1).any (λx=>x != 1)
def Bl(n:Nat)(l:List Int):(jR n l).length=n:=by simp[jR]
def Ik{n:Nat}(l:List Int){j:Nat}(h:j<n):(jR n l).getD j 0=(l.count (j:Int):Int):=by
 unfold jR;rw[az,bI,kX h];rfl
def ahl(n:Nat)(l:List Int)(k:Nat)(h:k<n):jR n (l++[(k:Int)])=(jR n l).set k ((jR n l).getD k 0+1):=by
 apply kY;intro j;rw[bU,Ik l h];unfold jR;rw[bI,fK,List.length_range];by_cases hj:j<n
 ·rw[kX hj,eH,List.count_append];by_cases e:k=j
  ·subst e;rw[if_pos rfl,if_pos h];simp
  ·rw[if_neg e,bI,kX hj,eH];have:((k:Int)==(j:Int))=false:=by rw[beq_eq_false_iff_ne];omega
   simp[List.count_cons,this]
 ·rw[dK (by simpa using hj)];split
  ·omega
  ·rw[dK (by simpa using hj)];rfl
def ahm(n:Nat):jR n []=aK n 0:=by
 apply kY;intro j;unfold jR;rw[bI,List.getElem?_replicate];by_cases hj:j<n
 ·rw[kX hj,if_pos hj];rfl
 ·rw[dK (by simpa using hj),if_neg hj];rfl
def Il{m:ah}{x:Nd}(hm:VM m)(h:mg m x=true):x.kids.length<=24:=by
 unfold mg at h;split at h
 ·rw[decide_eq_true_eq]at h;omega
 ·rw[decide_eq_true_eq]at h;have:=hm.opt _ (aF (l:=m.cls) (i:=x.cls.toNat) (d:=default) GK);omega
def Ud{m:ah}{n:Nat}(hm:VM m):∀ (P:List Nd),(∀ x∈P,mg m x=true)->(fi P).length<=24*P.length
 |[],_=>by simp[fi]
 |x::r,h=>by
  have h1:=Il hm (h x GM);have h2:=Ud (n:=n) hm r λy hy=>h y (by simp[hy]);unfold fi at h2 ⊢;rw[List.flatMap_cons,bO,dq];omega
def ahn{n:Nat}{l:List Int}{j:Nat}(h:j<n):0<=(jR n l).getD j 0/\(jR n l).getD j 0<=l.length:=by
 rw[Ik l h];have:=List.count_le_length (a:=(j:Int)) (l:=l);omega
def MF(P:List Nd)(x:Nd):fi (P++[x])=fi P++x.kids:=by unfold fi;rw[sv];simp
def Ue{m:ah}{P:List Nd}{i:Nat}(hi:i<P.length)(h:kL m P.length i (P.getD i default)=false):jh m P=false:=by
 unfold jh;have:((bu P.length).all λi=>kL m P.length i (P.getD i default))=false:=by
  rw[Cf];intro h2;rw[fW]at h2;rw[h2 i (oF.2 hi)]at h;cases h
 rw[this,Bool.and_false,qU]
def Uf{m:ah}{P:List Nd}(h:¬(1<=P.length/\P.length<=20000)):jh m P=false:=by
 unfold jh;rw[decide_eq_false h,qU,qU]
def Im{m:ah}{P:List Nd}(h:1<=P.length/\P.length<=20000)(ha:∀ i,i<P.length->kL m P.length i (P.getD i default)=true):jh m P = !((jR P.length (fi P)).drop 1).any (λx=>x != 1):=by
 unfold jh;have:((bu P.length).all λi=>kL m P.length i (P.getD i default))=true:=by
  rw[fW];intro i hi;exact ha i (oF.1 hi)
 rw[this,decide_eq_true h,gK,gK]
def jl(c o:Int)(y:Int×Int):Bool:=decide (y=(c,o))
def sZ(m:ah)(a b:Int×Int):Bool:=decide (a.1=b.1)||s6 m a.1 a.2 b.1 b.2
def s8(m:ah)(g:List Int)(l:List (Int×Int))(i:Nat):Bool:=g.contains (l.getD i default).1&&hZ m (l.getD i default).1 (l.getD i default).2&&(l.take i).all (sZ m (l.getD i default))
def qB(m:ah)(g:List Int)(l:List (Int×Int)):Bool:=(bu l.length).all (s8 m g l)
def C7(m:ah)(g:List Int):Bool:=(bu g.length).all λi=>decide (0<=g.getD i 0/\g.getD i 0<m.cls.length/\(i=0\/g.getD (i-1) 0<g.getD i 0))
def uA(left:List (List Bool))(cells:List (List (Int×Int)))(c:Int):Bool :=
 (bu (left.getD c.toNat default).length).all λo=>!(left.getD c.toNat default).getD o false||cells.any λl=>l.any (jl c o)
def mh(m:ah)(x:Nd)(left:List (List Bool)):Bool :=
 C7 m x.a7&&decide (x.cells.length<x.a7.length)&&x.cells.all (qB m x.a7)&&x.a7.all (uA left x.cells)
def Bm{n:Nat}{f:Nat->Bool}:(bu n).all f=true↔∀ i,i<n->f i=true:=by
 rw[fW];exact⟨λh i hi=>h i (oF.2 hi),λh i hi=>h i (oF.1 hi)⟩
def all_false{α:Type}{l:List α}{f:α->Bool}{x:α}(hx:x∈l)(h:f x=false):l.all f=false:=by
 rw[Cf];intro h2;rw[fW]at h2;rw[h2 x hx]at h;cases h
def C8{n:Nat}{f:Nat->Bool}{i:Nat}(hi:i<n)(h:f i=false):(bu n).all f=false:=all_false (oF.2 hi) h
def Ug{m:ah}{g:List Int}(h:C7 m g=true):∀ c∈g,0<=c/\c<m.cls.length:=λc hc=>by
 obtain⟨i,hi,rfl⟩:=List.getElem_of_mem hc;have:=Bm.1 h i hi;rw[decide_eq_true_eq,az,bF hi]at this;exact⟨this.1,this.2.1⟩
def Uh{α:Type}(f:α->Bool):∀ (l:List α),(l.any λx=>!f x) = !l.all f
 |[]=>rfl
 |x::r=>by rw[List.any_cons,List.all_cons,Uh f r,Bool.not_and]
def Ui{m:ah}{x:Nd}{left:List (List Bool)}(h:C7 m x.a7=false):mh m x left=false:=by unfold mh;rw[h];rfl
def Uj{m:ah}{x:Nd}{left:List (List Bool)}(h:¬x.cells.length<x.a7.length):mh m x left=false:=by unfold mh;rw[decide_eq_false h];simp
def Uk{m:ah}{x:Nd}{left:List (List Bool)}(h:x.cells.all (qB m x.a7)=false):mh m x left=false:=by unfold mh;rw[h];simp
def Ul{m:ah}{x:Nd}{left:List (List Bool)}(h:x.a7.all (uA left x.cells)=false):mh m x left=false:=by unfold mh;rw[h];simp
def Um{m:ah}{x:Nd}{left:List (List Bool)}(h1:C7 m x.a7=true)(h2:x.cells.length<x.a7.length)(h3:x.cells.all (qB m x.a7)=true)(h4:x.a7.all (uA left x.cells)=true):mh m x left=true:=by unfold mh;rw[h1,decide_eq_true h2,h3,h4];rfl
def LO.ek{α:Type}{enc:α->List AV}{B:List (Nat×Ob)}{D E:List (Nat×Nat)}{S T:List (List α)}{os ob:List Ob}(h:LO enc B D E S T os)(k:ic os ob):LO enc B D E S T ob :=
 ⟨λb hb=>⟨k _ _ (h.base b hb).1,(h.base b hb).2⟩,⟨h.rD.len,λj hj=>⟨k _ _ (h.rD.row j hj).1,(h.rD.row j hj).2⟩⟩,⟨h.rE.len,λj hj=>⟨k _ _ (h.rE.row j hj).1,(h.rE.row j hj).2⟩⟩,h.nd⟩
def ic.trans{a b c:List Ob}(h:ic a b)(k:ic b c):ic a c:=λi o hi=>k i o (h i o hi)
def Ia(b:List Bool):∀ (a:List Bool) (n:Nat),n<a.length*b.length->(rJ a b).getD n false=(a.getD (n/b.length) false&&b.getD (n%b.length) false)
 |[],n,h=>by simp at h
 |x::r,n,h=>by
  have hb:0<b.length:=by
   rcases Nat.eq_zero_or_pos b.length with h0|h0
   ·rw[h0]at h;omega
   ·exact h0
  show((b.map (x && ·))++rJ r b).getD n false=_;rcases dP n b.length with hn|hn
  ·rw[Nat.div_eq_of_lt hn,Nat.mod_eq_of_lt hn,ik,az,List.getElem?_append_left (by simpa using hn),bI,bF hn,az,bF hn];rfl
  ·obtain⟨k,rfl⟩ :∃k,n=k+b.length:=⟨n-b.length,GK⟩;have ih:=Ia b r k (by rw[dq,gn]at h;omega);rw[az,List.getElem?_append_right (by simpa using hn),fK,Nat.add_sub_cancel,<- az,ih,Nat.add_div_right _ hb,Nat.add_mod_right,e7]
def xe(q:Int×Bool):Nm:=(q.1,!q.2)
def Un(l:List Nm)(s:List Bool):uB (j7 l s)=xe (dC l s (0,false)):=aho l s
def yu(m:ah)(left:List (List Bool))(g:Lg):List (Int×Bool):=PC left g.1 m.cls.length++PP m left g.2 m.ae.length++PK m left m.aD.length
def Uo(a b:List (Int×Bool))(z:Int×Bool):bQ (a++b) z=bQ b (bQ a z):=by unfold bQ;rw[Ay]
def ahp(m:ah)(left:List (List Bool))(g:Lg):l8 m left g=if(bQ (yu m left g) (0,false)).2=true then 1099511627776 else min (bQ (yu m left g) (0,false)).1 1099511627776:=by
 unfold l8 yu;rw[Uo,Uo]
def ER:∀ (l:List (Int×Bool)) (n:Int),(bQ l (n,true)).2=true
 |[],_=>rfl
 |p::r,n=>ER r _
def Uq:∀ (l:List (Int×Bool)) (n:Int),(bQ l (n,false)).2=true↔∃ p∈l,p.2=false
 |[],_=>by simp[bQ]
 |p::r,n=>by
  show(bQ r (n+p.1,false||!p.2)).2=true↔_;cases hp:p.2 with
  |false =>
   simp only[Bool.not_false,Bool.or_true];exact⟨λ_=>⟨p,GM,hp⟩,λ_=>ER r _⟩
  |true =>
   simp only[Bool.not_true,Bool.or_false];rw[Uq r];constructor
   ·rintro⟨q,hq,h⟩;exact⟨q,by simp[hq],h⟩
   ·rintro⟨q,hq,h⟩;rcases bw.1 hq with rfl|hq
    ·rw[hp]at h;cases h
    ·exact⟨q,hq,h⟩
def ahq{m:ah}(hm:VM m){left:List (List Bool)}(hl:left.length=m.cls.length){c:Ct}(hc:c∈m.aD)(hw:∀ x∈c.bh,1<=x.wt/\x.wt<=1000):decide (1099511627776<=jg left c)=(decide (c.cf=1099511627776)&&decide (0<jg left c)):=by
 obtain⟨_,h2,h3,_⟩:=ux (hm.ct c hc);have hs:=EK hw left;have bK:=hm.cls;have hp:1<=c.cf/\c.cf<=1048576\/c.cf=1099511627776:=by unfold jO at h3;rw[decide_eq_true_eq]at h3;omega
 unfold jg lK;generalize kk c.bh 0 left 0=n at *;rw[Bool.eq_iff_iff,bb,decide_eq_true_eq,decide_eq_true_eq,decide_eq_true_eq];split
 ·omega
 ·rcases hp with hp|hp
  ·have:(n-c.most)*c.cf<=24000*1048576:=Int.mul_le_mul GK hp.2 GK GK;omega
  ·rw[hp];omega
def MG:∀ (l:List Nm) (s:List Bool),(j7 l s).length<=l.length
 |[],s=>by cases s<;>simp[j7]
 |p::r,[]=>by simp[j7]
 |p::r,is::s=>by
  rw[j7,bO,dq];have:=MG r s;split<;>simp<;>omega
structure Sat(R:Int)(out:List Int)(v:Int):Prop where
 ok:mj R out
 v0:0<=v
 eq:min (kM out) 1099511627776=min v 1099511627776
def Ur:∀ (l:List Int) (i:Nat) (x:Int),i<l.length->kM (l.set i x)=kM l-l.getD i 0+x
 |[],i,x,h=>by simp at h
 |y::r,0,x,_=>by simp only[List.set_cons_zero,kM,ik];omega
 |y::r,i+1,x,h=>by
  have:=Ur r i x (by simpa using h);simp only[List.set_cons_succ,kM,e7];omega
def Sat.add{R:Int}{out:List Int}{v r d:Int}(h:Sat R out v)(hr:0<=r/\r<R)(hd:bT d):Sat R (iJ out r d) (v+d):=by
 have hlen:=h.ok.1;have hi:r.toNat<out.length:=GK;have hs:=MH h.ok.2 _ (aF (d:=(0:Int)) hi);have jZ:=Ur out r.toNat (eB (out.getD r.toNat 0) d) hi;have hg:=h.ok.get r.toNat;have he:=h.eq;have hv:=h.v0;unfold bT at hg;have hd2:=hd;unfold bT at hd2;refine⟨h.ok.add hd,GK,?_⟩;unfold iJ;rw[jZ];unfold eB;omega
def Sat.le{R:Int}{out:List Int}{v w:Int}(h:Sat R out v)(hw:0<=w)(e:min v 1099511627776=min w 1099511627776):Sat R out w:=⟨h.ok,hw,h.eq.trans e⟩
def Us{R:Int}:∀ (l:List (Int×Int)) (out:List Int) (v n:Int),(∀ c∈l,j8 R c.1=true/\jO c.2=true)->0<=v->bT n->Sat R out (v+n)->Sat R (C9 l out) (v+(l.map (·.2)).foldl eB n)
 |[],out,v,n,_,_,_,h=>h
 |c::r,out,v,n,hc,hv,gv,h=>by
  rw[C9];have h1:=hc c GM;have hr:=h1.1;rw[j8,decide_eq_true_eq]at hr;have hp:=vK h1.2;have h2:=h.add hr hp;refine Us r _ v (eB n c.2) (λx hx=>hc x (by simp[hx])) hv (E1 gv hp) (h2.le ?_ ?_)
  ·have:=E1 gv hp;unfold bT at this;omega
  ·unfold bT at hp gv;unfold eB;omega
def Ut{m:ah}(hm:VM m):∀ (plan:List Int) (i:Nat) (out:List Int) (v:Int),(∀ j,j<plan.length->hZ m ((i+j:Nat):Int) (plan.getD j 0)=true) ->
  Sat m.rules out v->Sat m.rules (C' m i plan out) (v+bN (λj=>rK ((m.cls.getD (i+j) default).getD (plan.getD j 0).toNat default)) plan.length)
 |[],i,out,v,_,h=>by show Sat m.rules out (v+0);rw[P9];exact h
 |o::r,i,out,v,hg,h=>by
  rw[C'];have h0:=hg 0 GM;rw[ik,jq]at h0;obtain⟨b1,b2,b3,b4⟩:=jN.1 h0;rw[Int.toNat_natCast]at b4;rw[if_neg GK];have hl:=aF (l:=m.cls) (i:=i) (d:=default) GK;have ho:=aF (l:=m.cls.getD i default) (i:=o.toNat) (d:=default) GK;have l7:=hm.sW _ hl _ ho;have h1:=Us _ out v 0 (Io l7) h.v0 (by unfold bT;decide) (by rw[P9];exact h);have h2:=Ut hm r (i+1) _ _ (λj hj=>by
   have:=hg (j+1) (by simpa using hj);rwa [e7,show i+(j+1)=i+1+j by omega]at this) h1
  rw[dq,zH];simp only[ik,e7,jq];rw[<- Int.add_assoc];rw[jf (g:=λj=>rK ((m.cls.getD (i+(j+1)) default).getD (r.getD j 0).toNat default)) r.length λj _=>by rw[show i+1+j=i+(j+1) by omega]]at h2;exact h2
def sX(m:ah)(plan:List Int)(p:Pr):Int:=yq m p (plan.getD p.fst.toNat 0) (plan.getD p.snd.toNat 0)
def Uu{m:ah}{plan:List Int}(hp:FP m plan):∀ (l:List Pr) (out:List Int) (v:Int),(∀ p∈l,hJ m p=true)->Sat m.rules out v ->
  Sat m.rules (Da m plan l out) (v+bN (λi=>sX m plan (l.getD i default)) l.length)
 |[],out,v,_,h=>by show Sat m.rules out (v+0);rw[P9];exact h
 |p::r,out,v,hg,h=>by
  rw[Da];have dO:=hg p GM;obtain⟨q1,q2,q3,q4,q5⟩:=qA dO;have dg:=hp.len;have g1:=hp.get p.fst.toNat GK;have g2:=hp.get p.snd.toNat GK;have a1:=jN.1 g1;have a2:=jN.1 g2;rw[if_pos ⟨a1.2.2.1,a2.2.2.1⟩];have h2:=Uu hp r _ _ (λx hx=>hg x (by simp[hx])) (h.add q1 (Mz dO (plan.getD p.fst.toNat 0) (plan.getD p.snd.toNat 0)));rw[dq,zH];simp only[ik,e7];rw[<- Int.add_assoc];exact h2
def oV(plan:List Int)(c:Ct):Int:=lK c.most c.cf (zN plan c.bh 0)
def Uv{m:ah}{plan:List Int}:∀ (l:List Ct) (out:List Int) (v:Int),(∀ c∈l,jv m c=true)->Sat m.rules out v ->
  Sat m.rules (Db plan l out) (v+bN (λi=>oV plan (l.getD i default)) l.length)
 |[],out,v,_,h=>by show Sat m.rules out (v+0);rw[P9];exact h
 |c::r,out,v,hg,h=>by
  rw[Db];obtain⟨q1,q2,q3,q4⟩:=ux (hg c GM);have h2:=Uv (plan:=plan) r _ _ (λx hx=>hg x (by simp[hx])) (h.add q1 (My (most:=c.most) (sum:=zN plan c.bh 0) (vK q3)));rw[dq,zH];simp only[ik,e7];rw[<- Int.add_assoc];exact h2
def vJ(m:ah)(plan:List Int)(j:Nat):Int:=rK ((m.cls.getD j default).getD (plan.getD j 0).toNat default)
def ahf{m:ah}{plan:List Int}(hv:VM m)(hp:FP m plan):wW (zF m plan) 0 =
  min (bN (vJ m plan) m.cls.length+bN (λi=>sX m plan (m.ae.getD i default)) m.ae.length+bN (λi=>oV plan (m.aD.getD i default)) m.aD.length) 1099511627776:=by
 have h0:Sat m.rules (aK m.rules.toNat 0) 0:=by
  refine⟨mj.rep hv.vL.1,GS,?_⟩;have:∀ k,kM (aK k 0)=0:=by
   intro k
   induction k with
   |zero=>rfl
   |succ k ih=>rw[List.replicate_succ,kM,ih];rfl
  rw[this]
 have h1:=Ut hv plan 0 _ _ (λj hj=>by rw[gJ];exact hp.get j hj) h0;have h2:=Uu hp m.ae _ _ (j6 hv.pr) h1;have h3:=Uv (plan:=plan) m.aD _ _ hv.ct h2;have ahs:=Uw (aht hv plan).2 (n:=0) (by unfold bT;decide);have he:=h3.eq;change min (kM (zF m plan)) _=_ at he;rw[ahs,Ax,he,Ax,hp.len];simp only[gJ];rfl
end T

