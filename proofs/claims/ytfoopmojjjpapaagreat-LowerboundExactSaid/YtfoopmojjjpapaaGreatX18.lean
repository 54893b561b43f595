import Derived.Test.YtfoopmojjjpapaaGreatX14
import Derived.Test.YtfoopmojjjpapaaGreatX17
set_option linter.all false
set_option maxHeartbeats 0
set_option maxRecDepth 20000
open List renaming foldl_append→AU,range→bk,getD_eq_getElem?_getD→ax,getElem?_eq_none→fl,mem_or_eq_of_mem_set→tP,getElem?_set→bP,length_set→bw,mem_map→bS,getElem?_map→bV,getElem?_eq_getElem→bq,length_cons→cX,flatMap_append→tS,length_append→bL,length_map→fF,getD_cons_zero→iv,getD_cons_succ→fq,mem_cons→bm,not_mem_nil→iT,getElem?_range→pX,ext_getElem?→pZ,replicate→aO,all_eq_true→gd,mem_range→nv
open Nat renaming lt_or_ge→du,add_mul→fh,add_zero→iw,zero_add→fc
open Bool renaming and_eq_true→bg,not_eq_true'→kz,eq_false_iff→CL,false_and→p8,true_and→iy
open Option renaming map_some→gF
open Int renaming add_zero→Oq,zero_add→zb
open Go Go.Am
namespace T
def S0(m:ah):List (List Nm):=m.cls.map λl=>dq (b7 l)
def T0(m:ah):List (List Nm):=m.ae.map λp=>dq p.aB
def jn(r:List Nm)(i:Nat)(a:Int):List Nm:=r.set i ((r.getD i default).1+a,(r.getD i default).2)
def gq(f:Nat->Nat)(a:Int):Nat->List Nm->List Nm
 |0,t=>t
 |k+1,t=>jn (gq f a k t) (f k) (-a)
abbrev Lg:=List (List Nm)×List (List Nm)
def nN(m:ah)(x:Mv):(Nat->Nat)×Nat :=
 if x.side=0 then(λk=>(x.opt*(m.cls.getD (m.ae.getD x.pair.toNat default).snd.toNat default).length+k).toNat,(m.cls.getD (m.ae.getD x.pair.toNat default).snd.toNat default).length)
 else(λk=>((k:Int)*(m.cls.getD (m.ae.getD x.pair.toNat default).snd.toNat default).length+x.opt).toNat,(m.cls.getD (m.ae.getD x.pair.toNat default).fst.toNat default).length)
def jF(m:ah)(x:Mv)(g:Lg):Lg :=
 (g.1.set (eI m x).toNat (jn (g.1.getD (eI m x).toNat default) x.opt.toNat x.amt),g.2.set x.pair.toNat (gq (nN m x).1 x.amt (nN m x).2 (g.2.getD x.pair.toNat default)))
def iF(m:ah)(l:List Mv)(g:Lg):Lg:=l.foldl (λg x=>jF m x g) g
def SN(m:ah)(l:List Mv)(x:Mv)(g:Lg):iF m (l++[x]) g=jF m x (iF m l g):=by unfold iF;rw[AU];rfl
def qM(a b:List Bool):List Bool:=a.flatMap λx=>b.map λy=>x&&y
def PC(left:List (List Bool))(S:List (List Nm))(n:Nat):List (Int×Bool):=(bk n).map λi=>cI (S.getD i default) (left.getD i default) (0,false)
def gr(m:ah)(left:List (List Bool))(i:Nat):List Bool:=qM (left.getD (m.ae.getD i default).fst.toNat default) (left.getD (m.ae.getD i default).snd.toNat default)
def PP(m:ah)(left:List (List Bool))(T:List (List Nm))(n:Nat):List (Int×Bool):=(bk n).map λi=>cI (T.getD i default) (gr m left i) (0,false)
def PK(m:ah)(left:List (List Bool))(n:Nat):List (Int×Bool):=(bk n).map λi=>(im left (m.aC.getD i default),!(decide ((m.aC.getD i default).cf=1099511627776)&&decide (0<im left (m.aC.getD i default))))
def bK(l:List (Int×Bool))(z:Int×Bool):Int×Bool:=l.foldl (λz p=>(z.1+p.1,z.2||!p.2)) z
def kk(m:ah)(left:List (List Bool))(g:Lg):Int :=
 if(bK (PK m left m.aC.length) (bK (PP m left g.2 m.ae.length) (bK (PC left g.1 m.cls.length) (0,false)))).2=true then 1099511627776
 else min (bK (PK m left m.aC.length) (bK (PP m left g.2 m.ae.length) (bK (PC left g.1 m.cls.length) (0,false)))).1 1099511627776
def fZ(m:ah)(left:List (List Bool))(l:List Mv):Int×Int :=
 if 2000<l.length then(0,2) else if l.all (il m)=false then(0,3) else(kk m left (iF m l (S0 m,T0 m)),0)
def b6(m:ah)(left:List (List Bool))(l:List Mv):Int×Int:=if jH m left≠0 then(0,jH m left) else fZ m left l
def BH(l:List (Int×Bool))(p z:Int×Bool):bK (l++[p]) z=((bK l z).1+p.1,(bK l z).2||!p.2):=by unfold bK;rw[AU];rfl
def yn{β:Type}(f:Nat->β)(n:Nat):(bk (n+1)).map f=(bk n).map f++[f n]:=by rw[List.range_succ,List.map_append];rfl
def NB(B:Int)(r:List Nm):Prop:=∀ p∈r,-B<=p.1/\p.1<=B
def NB.get{B:Int}{r:List Nm}(h:NB B r)(hB:0<=B)(i:Nat): -B<=(r.getD i default).1/\(r.getD i default).1<=B:=by
 rcases du i r.length with hi|hi
 ·exact h _ (aE hi)
 ·rw[ax,fl hi];show -B<=(0:Int)/\(0:Int)<=B;omega
def NB.mono{B C:Int}{r:List Nm}(h:NB B r)(hc:B<=C):NB C r:=λp hp=>by have:=h p hp;omega
def NB.add{B:Int}{r:List Nm}(h:NB B r)(hB:0<=B)(i:Nat){a:Int}(ha : -268435456<=a/\a<=268435456):NB (B+268435456) (jn r i a):=λp hp=>by
 rcases tP hp with h'|h'
 ·have:=h p h';omega
 ·have:=h.get hB i;rw[h'];dsimp only;omega
def w6(r:List Nm)(i:Nat)(a:Int):(jn r i a).length=r.length:=by simp[jn]
def zU(f:Nat->Nat)(a:Int):∀ (k:Nat) (t:List Nm),(gq f a k t).length=t.length
 |0,t=>rfl
 |k+1,t=>by rw[gq,w6,zU f a k t]
def NB.sub{B:Int}{r:List Nm}(h:NB B r)(hB:0<=B)(f:Nat->Nat){a:Int}(ha : -268435456<=a/\a<=268435456):∀ k:Nat,NB (B+268435456*k) (gq f a k r)
 |0=>by simpa [gq] using h
 |k+1=>by
  rw[gq];have:=(NB.sub h hB f ha k).add AT (f k) (a:=-a) AT;exact this.mono AT
structure LG(m:ah)(B:Int)(g:Lg):Prop where
 s:g.1.length=m.cls.length
 t:g.2.length=m.ae.length
 sl:∀ i,i<m.cls.length->(g.1.getD i default).length=(m.cls.getD i default).length
 tl:∀ i,i<m.ae.length->(g.2.getD i default).length=(m.ae.getD i default).aB.length
 sb:∀ r∈g.1,NB B r
 tb:∀ r∈g.2,NB B r
def SO{g:List (List Nm)}{i j:Nat}{r:List Nm}(h:r.length=(g.getD i default).length):((g.set i r).getD j default).length=(g.getD j default).length:=by
 by_cases e:i=j
 ·subst e;rcases du i g.length with hi|hi
  ·simp only[ax,bP,hi,if_true,Option.getD_some];rw[h,ax]
  ·rw[List.set_eq_of_length_le hi]
 ·simp only[ax,List.getElem?_set_ne e]
def te{B:Int}{g:List (List Nm)}(h:∀ r∈g,NB B r)(i:Nat):NB B (g.getD i default):=by
 rcases du i g.length with hi|hi
 ·exact h _ (aE hi)
 ·rw[ax,fl hi];intro p hp;cases hp
def afd{m:ah}(hm:VM m)(x:Mv):(nN m x).2<=24:=by
 have:∀ i,(m.cls.getD i default).length<=24:=λi=>by
  rcases du i m.cls.length with hi|hi
  ·exact hm.opt _ (aE hi)
  ·rw[ax,fl hi];exact Nat.zero_le _
 unfold nN;split<;>exact this _
def R7{m:ah}(hm:VM m){B:Int}(hB:0<=B){g:Lg}(h:LG m B g){x:Mv}(hx:il m x=true):LG m (B+268435456*25) (jF m x g):=by
 unfold il at hx;rw[bg,decide_eq_true_eq]at hx;have ha:=hx.1.2.2.2.2;have hk:=afd hm x;refine⟨by rw[jF,bw];exact h.s,by rw[jF,bw];exact h.t,λi hi=>?_,λi hi=>?_,λr hr=>?_,λr hr=>?_⟩
 ·rw[jF];dsimp only;rw[SO (by rw[w6])];exact h.sl i hi
 ·rw[jF];dsimp only;rw[SO (by rw[zU])];exact h.tl i hi
 ·rcases tP hr with h'|h'
  ·exact(h.sb r h').mono AT
  ·rw[h'];exact((te h.sb _).add hB _ ha).mono AT
 ·rcases tP hr with h'|h'
  ·exact(h.tb r h').mono AT
  ·rw[h'];exact((te h.tb _).sub hB _ ha _).mono AT
def SP{l:List Int}(h:∀ x∈l,bJ x):NB 1099511627776 (dq l):=λp hp=>by
 obtain⟨x,hx,rfl⟩:=bS.1 hp;have:=h x hx;unfold bJ at this;show -1099511627776<=x/\x<=1099511627776;omega
def GU{m:ah}{p:Pr}(hp:gA m p=true):∀ x∈p.aB,bJ x:=λx hx=>by
 unfold gA at hp;simp only[bg,kz,List.any_eq_false]at hp;have:=hp.2 _ hx;rw[oG]at this;simp only[bg,kz,decide_eq_true_eq,not_and,Bool.not_eq_false]at this;by_cases hz:x=0
 ·subst hz;unfold bJ;decide
 ·exact rL (this hz)
def gR{α β:Type}[Inhabited α][Inhabited β](f:α->β)(l:List α)(i:Nat)(h:i<l.length):(l.map f).getD i default=f (l.getD i default):=by
 rw[ax,bV,ax,bq h];rfl
def Sn{m:ah}(hm:VM m):LG m 1099511627776 (S0 m,T0 m):=by
 refine⟨by simp[S0],by simp[T0],λi hi=>?_,λi hi=>?_,λr hr=>?_,λr hr=>?_⟩
 ·show((S0 m).getD i default).length=_;rw[S0,gR _ _ _ hi];simp[dq,b7]
 ·show((T0 m).getD i default).length=_;rw[T0,gR _ _ _ hi];simp[dq]
 ·obtain⟨l,hl,rfl⟩:=bS.1 hr;refine SP λx hx=>?_;obtain⟨o,ho,rfl⟩:=bS.1 hx;exact BK (hm.qK l hl o ho)
 ·obtain⟨p,hp,rfl⟩:=bS.1 hr;exact SP (GU (jG hm.pr p hp))
def GK{m:ah}(hm:VM m)(l:List Mv)(hl:∀ x∈l,il m x=true):LG m (1099511627776+268435456*25*l.length) (iF m l (S0 m,T0 m)):=by
 have key:∀ (l:List Mv) (B:Int) (g:Lg),0<=B->(∀ x∈l,il m x=true)->LG m B g->LG m (B+268435456*25*l.length) (iF m l g):=by
  intro l
  induction l with
  |nil=>intro B g _ _ h;simpa [iF] using h
  |cons x r ih =>
   intro B g hB hx h;have h1:=R7 hm hB h (hx x IM);have h2:=ih _ _ AT (λy hy=>hx y (by simp[hy])) h1;show LG m _ (iF m r (jF m x g));have e:B+268435456*25+268435456*25*(r.length:Int)=B+268435456*25*((x::r).length:Int):=by simp only[cX];omega
   rw[e]at h2;exact h2
 exact key l _ _ IP hl (Sn hm)
def DK{B:Int}:∀ (l:List Nm) (s:List Bool) (b:Int×Bool),NB B l->(-B<=b.1/\b.1<=B)->-B<=(cI l s b).1/\(cI l s b).1<=B
 |[],s,b,_,hb=>by cases s<;>exact hb
 |p::r,[],b,_,hb=>hb
 |p::r,is::s,b,h,hb=>by
  rw[cI];refine DK r s _ (λq hq=>h q (by simp[hq])) ?_;have:=h p IM;split
  ·exact this
  ·exact hb
def yw{B:Int}:∀ (l:List (Int×Bool)) (z:Int×Bool),(∀ p∈l,-B<=p.1/\p.1<=B)->z.1-B*l.length<=(bK l z).1/\(bK l z).1<=z.1+B*l.length
 |[],z,_=>by show z.1-_<=z.1/\z.1<=z.1+_;simp
 |p::r,z,h=>by
  have h1:=yw r (z.1+p.1,z.2||!p.2) λq hq=>h q (by simp[hq]);have h2:=h p IM;show _<=(bK r (z.1+p.1,z.2||!p.2)).1/\_;rw[cX,Int.natCast_add,Int.mul_add];dsimp only at h1;simp only[Int.cast_ofNat_Int,Int.mul_one];show z.1-(B*r.length+B)<=(bK r (z.1+p.1,z.2||!p.2)).1/\(bK r (z.1+p.1,z.2||!p.2)).1<=z.1+(B*r.length+B);omega
def lk:Int:=1099511627776+268435456*25*2000
def KR{left:List (List Bool)}{S:List (List Nm)}{B:Int}(hB:0<=B)(h:∀ r∈S,NB B r)(n:Nat):∀ p∈PC left S n,-B<=p.1/\p.1<=B:=λp hp=>by
 obtain⟨i,_,rfl⟩:=bS.1 hp;exact DK _ _ _ (te h i) NZ
def KS{m:ah}{left:List (List Bool)}{T:List (List Nm)}{B:Int}(hB:0<=B)(h:∀ r∈T,NB B r)(n:Nat):∀ p∈PP m left T n,-B<=p.1/\p.1<=B:=λp hp=>by
 obtain⟨i,_,rfl⟩:=bS.1 hp;exact DK _ _ _ (te h i) NZ
def SQ(most cf n:Int)(hm:0<=most)(hp:0<=cf):0<=kL most cf n/\kL most cf n<=1099511627776:=by
 unfold kL;split
 ·omega
 ·have:=Int.mul_nonneg (show 0<=n-most by omega) hp;omega
def afe{m:ah}(hm:VM m)(i:Nat):0<=(m.aC.getD i default).most/\0<=(m.aC.getD i default).cf:=by
 rcases du i m.aC.length with hi|hi
 ·obtain⟨_,h2,h3,_⟩:=qL (hm.ct _ (aE (d:=default) hi));exact⟨h2.1,(rL h3).1⟩
 ·rw[ax,fl hi];decide
def KT{m:ah}(hm:VM m){left:List (List Bool)}(n:Nat):∀ p∈PK m left n,-1099511627776<=p.1/\p.1<=1099511627776:=λp hp=>by
 obtain⟨i,_,rfl⟩:=bS.1 hp;have:=afe hm i;have:=SQ (m.aC.getD i default).most (m.aC.getD i default).cf (jS (m.aC.getD i default).aZ 0 left 0) this.1 this.2;unfold im;dsimp only;omega
def BO(left:List (List Bool))(S:List (List Nm))(n:Nat):(PC left S n).length=n:=by simp[PC]
def DM(m:ah)(left:List (List Bool))(S:List (List Nm))(n:Nat):(PP m left S n).length=n:=by simp[PP]
def GW(m:ah)(left:List (List Bool))(n:Nat):(PK m left n).length=n:=by simp[PK]
def aff(a:List Bool)(x:Bool)(b:List Bool):qM (a++[x]) b=qM a b++b.map (x && ·):=by unfold qM;rw[tS];simp
def BM(b:List Bool):∀ a:List Bool,(qM a b).length=a.length*b.length
 |[]=>by simp[qM]
 |x::r=>by
  show((b.map (x && ·))++qM r b).length=_;rw[bL,BM b r,fF,cX,fh];omega
def LO.dN{α:Type}{enc:α->List AV}{B:List (Nat×Ob)}{D E:List (Nat×Nat)}{S T:List (List α)}{os ob:List Ob}(h:LO enc B D E S T os)(k:gB os ob):LO enc B D E S T ob :=
 ⟨λb hb=>⟨k _ _ (h.base b hb).1,(h.base b hb).2⟩,⟨h.rD.len,λj hj=>⟨k _ _ (h.rD.row j hj).1,(h.rD.row j hj).2⟩⟩,⟨h.rE.len,λj hj=>⟨k _ _ (h.rE.row j hj).1,(h.rE.row j hj).2⟩⟩,h.nd⟩
def gB.trans{a b c:List Ob}(h:gB a b)(k:gB b c):gB a c:=λi o hi=>k i o (h i o hi)
def BL(b:List Bool):∀ (a:List Bool) (n:Nat),n<a.length*b.length->(qM a b).getD n false=(a.getD (n/b.length) false&&b.getD (n%b.length) false)
 |[],n,h=>by simp at h
 |x::r,n,h=>by
  have hb:0<b.length:=by
   rcases Nat.eq_zero_or_pos b.length with h0|h0
   ·rw[h0]at h;omega
   ·exact h0
  show((b.map (x && ·))++qM r b).getD n false=_;rcases du n b.length with hn|hn
  ·rw[Nat.div_eq_of_lt hn,Nat.mod_eq_of_lt hn,iv,ax,List.getElem?_append_left (by simpa using hn),bV,bq hn,ax,bq hn];rfl
  ·obtain⟨k,rfl⟩ :∃k,n=k+b.length:=⟨n-b.length,AT⟩;have ih:=BL b r k (by rw[cX,fh]at h;omega);rw[ax,List.getElem?_append_right (by simpa using hn),fF,Nat.add_sub_cancel,<- ax,ih,Nat.add_div_right _ hb,Nat.add_mod_right,fq]
def vA(q:Int×Bool):Nm:=(q.1,!q.2)
def SR(l:List Nm)(s:List Bool):tg (jI l s)=vA (cI l s (0,false)):=afg l s
def w7(m:ah)(left:List (List Bool))(g:Lg):List (Int×Bool):=PC left g.1 m.cls.length++PP m left g.2 m.ae.length++PK m left m.aC.length
def SS(a b:List (Int×Bool))(z:Int×Bool):bK (a++b) z=bK b (bK a z):=by unfold bK;rw[AU]
def afh(m:ah)(left:List (List Bool))(g:Lg):kk m left g=if(bK (w7 m left g) (0,false)).2=true then 1099511627776 else min (bK (w7 m left g) (0,false)).1 1099511627776:=by
 unfold kk w7;rw[SS,SS]
def DI:∀ (l:List (Int×Bool)) (n:Int),(bK l (n,true)).2=true
 |[],_=>rfl
 |p::r,n=>DI r _
def SU:∀ (l:List (Int×Bool)) (n:Int),(bK l (n,false)).2=true↔∃ p∈l,p.2=false
 |[],_=>by simp[bK]
 |p::r,n=>by
  show(bK r (n+p.1,false||!p.2)).2=true↔_;cases hp:p.2 with
  |false =>
   simp only[Bool.not_false,Bool.or_true];exact⟨λ_=>⟨p,IM,hp⟩,λ_=>DI r _⟩
  |true =>
   simp only[Bool.not_true,Bool.or_false];rw[SU r];constructor
   ·rintro⟨q,hq,h⟩;exact⟨q,by simp[hq],h⟩
   ·rintro⟨q,hq,h⟩;rcases bm.1 hq with rfl|hq
    ·rw[hp]at h;cases h
    ·exact⟨q,hq,h⟩
def afi{m:ah}(hm:VM m){left:List (List Bool)}(hl:left.length=m.cls.length){c:Ct}(hc:c∈m.aC)(hw:∀ x∈c.aZ,1<=x.wt/\x.wt<=1000):decide (1099511627776<=im left c)=(decide (c.cf=1099511627776)&&decide (0<im left c)):=by
 obtain⟨_,h2,h3,_⟩:=qL (hm.ct c hc);have hs:=DJ hw left;have bn:=hm.cls;have hp:1<=c.cf/\c.cf<=1048576\/c.cf=1099511627776:=by unfold jo at h3;rw[decide_eq_true_eq]at h3;omega
 unfold im kL;generalize jS c.aZ 0 left 0=n at *;rw[Bool.eq_iff_iff,bg,decide_eq_true_eq,decide_eq_true_eq,decide_eq_true_eq];split
 ·omega
 ·rcases hp with hp|hp
  ·have:(n-c.most)*c.cf<=24000*1048576:=Int.mul_le_mul AT hp.2 AT AT;omega
  ·rw[hp];omega
def KU:∀ (l:List Nm) (s:List Bool),(jI l s).length<=l.length
 |[],s=>by cases s<;>simp[jI]
 |p::r,[]=>by simp[jI]
 |p::r,is::s=>by
  rw[jI,bL,cX];have:=KU r s;split<;>simp<;>omega
structure Nd where
 cls:Int
 kids:List Int
 dT:List Mv
 aT:List Int
 cells:List (List (Int×Int))
 deriving Inhabited
def rM(l:List (Int×Int)):List AV:=[.tree 2 (rowsOf dv l)]
instance:Row rM 1:=⟨λ_=>rfl,λx v hv=>by
 simp only[rM,bm,iT,or_false]at hv;subst hv;exact .inr ⟨_,_,rfl⟩⟩
def aM(x:Nd):List AV:=[Oi x.cls,.tree 1 (ints x.kids),.tree 4 (rowsOf aP x.dT),.tree 1 (ints x.aT),.tree 1 (rowsOf rM x.cells)]
instance:Row aM 5:=⟨λ_=>rfl,λx v hv=>by
 simp only[aM,bm,iT,or_false]at hv;rcases hv with rfl|rfl|rfl|rfl|rfl
 ·exact .inl ⟨_,rfl,rfl⟩
 all_goals exact .inr ⟨_,_,rfl⟩⟩
def cz(P:List Nd):List AV:=[.tree 5 (rowsOf aM P)]
structure PB(P:List Nd):Prop where
 KV:P.length<9223372036854775808
 kids:∀ x∈P,x.kids.length<9223372036854775808
 dT:∀ x∈P,x.dT.length<9223372036854775808
 aT:∀ x∈P,x.aT.length<9223372036854775808
 cells:∀ x∈P,x.cells.length<9223372036854775808
 cell:∀ x∈P,∀ l∈x.cells,l.length<9223372036854775808
def nf(m:ah)(x:Nd):Bool :=
 if x.cls = -1 then decide (x.kids.length=0/\(x.aT.length=0->x.cells.length=0)/\(0<x.aT.length->x.dT.length=0))
 else decide (0<=x.cls/\x.cls<m.cls.length/\x.kids.length=(m.cls.getD x.cls.toNat default).length/\x.dT.length=0/\x.aT.length=0/\x.cells.length=0)
def pF(n i:Nat)(k:Int):Bool:=decide ((i:Int)<k/\k<n)
def ln(m:ah)(n i:Nat)(x:Nd):Bool:=nf m x&&x.kids.all (pF n i)
def iQ(P:List Nd):List Int:=P.flatMap (·.kids)
def jT(n:Nat)(l:List Int):List Int:=(bk n).map λ(j:Nat)=>(l.count (j:Int):Int)
def km(m:ah)(P:List Nd):Bool :=
 decide (1<=P.length/\P.length<=20000)&&((bk P.length).all λi=>ln m P.length i (P.getD i default))&&!((jT P.length (iQ P)).drop 1).any (λx=>x != 1)
def GX(n:Nat)(l:List Int):(jT n l).length=n:=by simp[jT]
def SV{n:Nat}(l:List Int){j:Nat}(h:j<n):(jT n l).getD j 0=(l.count (j:Int):Int):=by
 unfold jT;rw[ax,bV,pX h];rfl
def afj(n:Nat)(l:List Int)(k:Nat)(h:k<n):jT n (l++[(k:Int)])=(jT n l).set k ((jT n l).getD k 0+1):=by
 apply pZ;intro j;rw[bP,SV l h];unfold jT;rw[bV,fF,List.length_range];by_cases hj:j<n
 ·rw[pX hj,gF,List.count_append];by_cases e:k=j
  ·subst e;rw[if_pos rfl,if_pos h];simp
  ·rw[if_neg e,bV,pX hj,gF];have:((k:Int)==(j:Int))=false:=by rw[beq_eq_false_iff_ne];omega
   simp[List.count_cons,this]
 ·rw[fl (by simpa using hj)];split
  ·omega
  ·rw[fl (by simpa using hj)];rfl
def afk(n:Nat):jT n []=aO n 0:=by
 apply pZ;intro j;unfold jT;rw[bV,List.getElem?_replicate];by_cases hj:j<n
 ·rw[pX hj,if_pos hj];rfl
 ·rw[fl (by simpa using hj),if_neg hj];rfl
def GY{m:ah}{x:Nd}(hm:VM m)(h:nf m x=true):x.kids.length<=24:=by
 unfold nf at h;split at h
 ·rw[decide_eq_true_eq]at h;omega
 ·rw[decide_eq_true_eq]at h;have:=hm.opt _ (aE (l:=m.cls) (i:=x.cls.toNat) (d:=default) AT);omega
def SX{m:ah}{n:Nat}(hm:VM m):∀ (P:List Nd),(∀ x∈P,nf m x=true)->(iQ P).length<=24*P.length
 |[],_=>by simp[iQ]
 |x::r,h=>by
  have h1:=GY hm (h x IM);have h2:=SX (n:=n) hm r λy hy=>h y (by simp[hy]);unfold iQ at h2 ⊢;rw[List.flatMap_cons,bL,cX];omega
def afl{n:Nat}{l:List Int}{j:Nat}(h:j<n):0<=(jT n l).getD j 0/\(jT n l).getD j 0<=l.length:=by
 rw[SV l h];have:=List.count_le_length (a:=(j:Int)) (l:=l);omega
def SY(P:List Nd)(x:Nd):iQ (P++[x])=iQ P++x.kids:=by unfold iQ;rw[tS];simp
def SZ{m:ah}{P:List Nd}{i:Nat}(hi:i<P.length)(h:ln m P.length i (P.getD i default)=false):km m P=false:=by
 unfold km;have:((bk P.length).all λi=>ln m P.length i (P.getD i default))=false:=by
  rw[CL];intro h2;rw[gd]at h2;rw[h2 i (nv.2 hi)]at h;cases h
 rw[this,Bool.and_false,p8]
def S1{m:ah}{P:List Nd}(h:¬(1<=P.length/\P.length<=20000)):km m P=false:=by
 unfold km;rw[decide_eq_false h,p8,p8]
def S2{m:ah}{P:List Nd}(h:1<=P.length/\P.length<=20000)(ha:∀ i,i<P.length->ln m P.length i (P.getD i default)=true):km m P = !((jT P.length (iQ P)).drop 1).any (λx=>x != 1):=by
 unfold km;have:((bk P.length).all λi=>ln m P.length i (P.getD i default))=true:=by
  rw[gd];intro i hi;exact ha i (nv.1 hi)
 rw[this,decide_eq_true h,iy,iy]
def oH(c o:Int)(y:Int×Int):Bool:=decide (y=(c,o))
def BQ(m:ah)(a b:Int×Int):Bool:=decide (a.1=b.1)||uB m a.1 a.2 b.1 b.2
def yx(m:ah)(g:List Int)(l:List (Int×Int))(i:Nat):Bool:=g.contains (l.getD i default).1&&jq m (l.getD i default).1 (l.getD i default).2&&(l.take i).all (BQ m (l.getD i default))
def uC(m:ah)(g:List Int)(l:List (Int×Int)):Bool:=(bk l.length).all (yx m g l)
def DN(m:ah)(g:List Int):Bool:=(bk g.length).all λi=>decide (0<=g.getD i 0/\g.getD i 0<m.cls.length/\(i=0\/g.getD (i-1) 0<g.getD i 0))
def yy(left:List (List Bool))(cells:List (List (Int×Int)))(c:Int):Bool :=
 (bk (left.getD c.toNat default).length).all λo=>!(left.getD c.toNat default).getD o false||cells.any λl=>l.any (oH c o)
def ng(m:ah)(x:Nd)(left:List (List Bool)):Bool :=
 DN m x.aT&&decide (x.cells.length<x.aT.length)&&x.cells.all (uC m x.aT)&&x.aT.all (yy left x.cells)
def zY{n:Nat}{f:Nat->Bool}:(bk n).all f=true↔∀ i,i<n->f i=true:=by
 rw[gd];exact⟨λh i hi=>h i (nv.2 hi),λh i hi=>h i (nv.1 hi)⟩
def all_false{α:Type}{l:List α}{f:α->Bool}{x:α}(hx:x∈l)(h:f x=false):l.all f=false:=by
 rw[CL];intro h2;rw[gd]at h2;rw[h2 x hx]at h;cases h
def KW{n:Nat}{f:Nat->Bool}{i:Nat}(hi:i<n)(h:f i=false):(bk n).all f=false:=all_false (nv.2 hi) h
def S3{m:ah}{g:List Int}(h:DN m g=true):∀ c∈g,0<=c/\c<m.cls.length:=λc hc=>by
 obtain⟨i,hi,rfl⟩:=List.getElem_of_mem hc;have:=zY.1 h i hi;rw[decide_eq_true_eq,ax,bq hi]at this;exact⟨this.1,this.2.1⟩
def S4{α:Type}(f:α->Bool):∀ (l:List α),(l.any λx=>!f x) = !l.all f
 |[]=>rfl
 |x::r=>by rw[List.any_cons,List.all_cons,S4 f r,Bool.not_and]
def afm{m:ah}{x:Nd}{left:List (List Bool)}(h:DN m x.aT=false):ng m x left=false:=by unfold ng;rw[h];rfl
def afn{m:ah}{x:Nd}{left:List (List Bool)}(h:¬x.cells.length<x.aT.length):ng m x left=false:=by unfold ng;rw[decide_eq_false h];simp
def afo{m:ah}{x:Nd}{left:List (List Bool)}(h:x.cells.all (uC m x.aT)=false):ng m x left=false:=by unfold ng;rw[h];simp
def afp{m:ah}{x:Nd}{left:List (List Bool)}(h:x.aT.all (yy left x.cells)=false):ng m x left=false:=by unfold ng;rw[h];simp
def afq{m:ah}{x:Nd}{left:List (List Bool)}(h1:DN m x.aT=true)(h2:x.cells.length<x.aT.length)(h3:x.cells.all (uC m x.aT)=true)(h4:x.aT.all (yy left x.cells)=true):ng m x left=true:=by unfold ng;rw[h1,decide_eq_true h2,h3,h4];rfl
structure Sat(R:Int)(out:List Int)(v:Int):Prop where
 ok:lq R out
 v0:0<=v
 eq:min (j9 out) 1099511627776=min v 1099511627776
def S5:∀ (l:List Int) (i:Nat) (x:Int),i<l.length->j9 (l.set i x)=j9 l-l.getD i 0+x
 |[],i,x,h=>by simp at h
 |y::r,0,x,_=>by simp only[List.set_cons_zero,j9,iv];omega
 |y::r,i+1,x,h=>by
  have:=S5 r i x (by simpa using h);simp only[List.set_cons_succ,j9,fq];omega
def Sat.add{R:Int}{out:List Int}{v r d:Int}(h:Sat R out v)(hr:0<=r/\r<R)(hd:bJ d):Sat R (iq out r d) (v+d):=by
 have hlen:=h.ok.1;have hi:r.toNat<out.length:=AT;have hs:=KX h.ok.2 _ (aE (d:=(0:Int)) hi);have gQ:=S5 out r.toNat (dW (out.getD r.toNat 0) d) hi;have hg:=h.ok.get r.toNat;have he:=h.eq;have hv:=h.v0;unfold bJ at hg;have DO:=hd;unfold bJ at DO;refine⟨h.ok.add hd,AT,?_⟩;unfold iq;rw[gQ];unfold dW;omega
def Sat.le{R:Int}{out:List Int}{v w:Int}(h:Sat R out v)(hw:0<=w)(e:min v 1099511627776=min w 1099511627776):Sat R out w:=⟨h.ok,hw,h.eq.trans e⟩
def S6{R:Int}:∀ (l:List (Int×Int)) (out:List Int) (v n:Int),(∀ c∈l,jJ R c.1=true/\jo c.2=true)->0<=v->bJ n->Sat R out (v+n)->Sat R (BS l out) (v+(l.map (·.2)).foldl dW n)
 |[],out,v,n,_,_,_,h=>h
 |c::r,out,v,n,hc,hv,kj,h=>by
  rw[BS];have h1:=hc c IM;have hr:=h1.1;rw[jJ,decide_eq_true_eq]at hr;have hp:=rL h1.2;have h2:=h.add hr hp;refine S6 r _ v (dW n c.2) (λx hx=>hc x (by simp[hx])) hv (DP kj hp) (h2.le ?_ ?_)
  ·have:=DP kj hp;unfold bJ at this;omega
  ·unfold bJ at hp kj;unfold dW;omega
def S7{m:ah}(hm:VM m):∀ (plan:List Int) (i:Nat) (out:List Int) (v:Int),(∀ j,j<plan.length->jq m ((i+j:Nat):Int) (plan.getD j 0)=true) ->
  Sat m.rules out v->Sat m.rules (BT m i plan out) (v+br (λj=>qN ((m.cls.getD (i+j) default).getD (plan.getD j 0).toNat default)) plan.length)
 |[],i,out,v,_,h=>by show Sat m.rules out (v+0);rw[Oq];exact h
 |o::r,i,out,v,hg,h=>by
  rw[BT];have h0:=hg 0 IM;rw[iv,iw]at h0;obtain⟨b1,b2,b3,b4⟩:=iN.1 h0;rw[Int.toNat_natCast]at b4;rw[if_neg AT];have hl:=aE (l:=m.cls) (i:=i) (d:=default) AT;have ho:=aE (l:=m.cls.getD i default) (i:=o.toNat) (d:=default) AT;have kM:=hm.qK _ hl _ ho;have h1:=S6 _ out v 0 (GZ kM) h.v0 (by unfold bJ;decide) (by rw[Oq];exact h);have h2:=S7 hm r (i+1) _ _ (λj hj=>by
   have:=hg (j+1) (by simpa using hj);rwa [fq,show i+(j+1)=i+1+j by omega]at this) h1
  rw[cX,yp];simp only[iv,fq,iw];rw[<- Int.add_assoc];rw[iP (g:=λj=>qN ((m.cls.getD (i+(j+1)) default).getD (r.getD j 0).toNat default)) r.length λj _=>by rw[show i+1+j=i+(j+1) by omega]]at h2;exact h2
def mu(m:ah)(plan:List Int)(p:Pr):Int:=zX m p (plan.getD p.fst.toNat 0) (plan.getD p.snd.toNat 0)
def S8{m:ah}{plan:List Int}(hp:FP m plan):∀ (l:List Pr) (out:List Int) (v:Int),(∀ p∈l,gA m p=true)->Sat m.rules out v ->
  Sat m.rules (BU m plan l out) (v+br (λi=>mu m plan (l.getD i default)) l.length)
 |[],out,v,_,h=>by show Sat m.rules out (v+0);rw[Oq];exact h
 |p::r,out,v,hg,h=>by
  rw[BU];have dp:=hg p IM;obtain⟨q1,q2,q3,q4,q5⟩:=qI dp;have eG:=hp.len;have g1:=hp.get p.fst.toNat AT;have g2:=hp.get p.snd.toNat AT;have a1:=iN.1 g1;have a2:=iN.1 g2;rw[if_pos ⟨a1.2.2.1,a2.2.2.1⟩];have h2:=S8 hp r _ _ (λx hx=>hg x (by simp[hx])) (h.add q1 (GJ dp (plan.getD p.fst.toNat 0) (plan.getD p.snd.toNat 0)));rw[cX,yp];simp only[iv,fq];rw[<- Int.add_assoc];exact h2
def lQ(plan:List Int)(c:Ct):Int:=kL c.most c.cf (wZ plan c.aZ 0)
def S9{m:ah}{plan:List Int}:∀ (l:List Ct) (out:List Int) (v:Int),(∀ c∈l,iW m c=true)->Sat m.rules out v ->
  Sat m.rules (BV plan l out) (v+br (λi=>lQ plan (l.getD i default)) l.length)
 |[],out,v,_,h=>by show Sat m.rules out (v+0);rw[Oq];exact h
 |c::r,out,v,hg,h=>by
  rw[BV];obtain⟨q1,q2,q3,q4⟩:=qL (hg c IM);have h2:=S9 (plan:=plan) r _ _ (λx hx=>hg x (by simp[hx])) (h.add q1 (GH (most:=c.most) (sum:=wZ plan c.aZ 0) (rL q3)));rw[cX,yp];simp only[iv,fq];rw[<- Int.add_assoc];exact h2
def qJ(m:ah)(plan:List Int)(j:Nat):Int:=qN ((m.cls.getD j default).getD (plan.getD j 0).toNat default)
def Sp{m:ah}{plan:List Int}(hv:VM m)(hp:FP m plan):pz (rK m plan) 0 =
  min (br (qJ m plan) m.cls.length+br (λi=>mu m plan (m.ae.getD i default)) m.ae.length+br (λi=>lQ plan (m.aC.getD i default)) m.aC.length) 1099511627776:=by
 have h0:Sat m.rules (aO m.rules.toNat 0) 0:=by
  refine⟨lq.rep hv.uD.1,IP,?_⟩;have:∀ k,j9 (aO k 0)=0:=by
   intro k
   induction k with
   |zero=>rfl
   |succ k ih=>rw[List.replicate_succ,j9,ih];rfl
  rw[this]
 have h1:=S7 hv plan 0 _ _ (λj hj=>by rw[fc];exact hp.get j hj) h0;have h2:=S8 hp m.ae _ _ (jG hv.pr) h1;have h3:=S9 (plan:=plan) m.aC _ _ hv.ct h2;have afr:=Ta (afs hv plan).2 (n:=0) (by unfold bJ;decide);have he:=h3.eq;change min (j9 (rK m plan)) _=_ at he;rw[afr,zb,he,zb,hp.len];simp only[fc];rfl
end T

