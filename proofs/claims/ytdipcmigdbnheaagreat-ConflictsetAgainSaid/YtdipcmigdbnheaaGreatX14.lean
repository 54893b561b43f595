import Derived.Test.YtdipcmigdbnheaaGreatX13
set_option linter.all false
set_option maxHeartbeats 0
set_option maxRecDepth 20000
open List renaming range→aN,getD_eq_getElem?_getD→aA,getElem?_eq_none→eE,mem_or_eq_of_mem_set→pA,getElem?_set→bV,getElem?_set_ne→bj,length_set→bE,mem_map→bZ,getElem?_map→cg,getElem?_eq_getElem→bT,length_cons→dz,length_append→bR,length_map→ed,getD_cons_zero→fQ,getD_cons_succ→ep,mem_cons→b8,not_mem_nil→k8,getElem?_range→oN,ext_getElem?→mZ,all_eq_true→gz,mem_range→lz,getElem?_set_self→EU,mem_iff_getElem→rJ,contains_iff_mem→sV,mem_singleton→ew,mem_append→cj
open Nat renaming lt_or_ge→eh,zero_le→aQ
open Option renaming getD_some→mo,map_some→fR
open Bool renaming and_eq_true→ba,not_eq_true'→jW,false_and→lY,true_and→iq,not_true→lA
open Int renaming mul_nonneg→rR
open Go Go.Am Go.Proofs
namespace T
def S0(m:aj):List (List Nm):=m.cls.map λl=>gN (jE l)
def T0(m:aj):List (List Nm):=m.ae.map λp=>gN p.ay
def tP(r:List Nm)(i:Nat)(a:Int):List Nm:=r.set i ((r.getD i default).1+a,(r.getD i default).2)
def ri(f:Nat->Nat)(a:Int):Nat->List Nm->List Nm
 |0,t=>t
 |k+1,t=>tP (ri f a k t) (f k) (-a)
abbrev Lg:=List (List Nm)×List (List Nm)
def AH(m:aj)(x:Mv):(Nat->Nat)×Nat :=
 if x.side=0 then(λk=>(x.opt*(m.cls.getD (m.ae.getD x.pair.toNat default).snd.toNat default).length+k).toNat,(m.cls.getD (m.ae.getD x.pair.toNat default).snd.toNat default).length)
 else(λk=>((k:Int)*(m.cls.getD (m.ae.getD x.pair.toNat default).snd.toNat default).length+x.opt).toNat,(m.cls.getD (m.ae.getD x.pair.toNat default).fst.toNat default).length)
def nR(m:aj)(x:Mv)(g:Lg):Lg :=
 (g.1.set (oF m x).toNat (tP (g.1.getD (oF m x).toNat default) x.opt.toNat x.tQ),g.2.set x.pair.toNat (ri (AH m x).1 x.tQ (AH m x).2 (g.2.getD x.pair.toNat default)))
def mi(m:aj)(l:List Mv)(g:Lg):Lg:=l.foldl (λg x=>nR m x g) g
def tN(a b:List Bool):List Bool:=a.flatMap λx=>b.map λy=>x&&y
def PC(left:List (List Bool))(S:List (List Nm))(n:Nat):List (Int×Bool):=(aN n).map λi=>fe (S.getD i default) (left.getD i default) (0,false)
def kA(m:aj)(left:List (List Bool))(i:Nat):List Bool:=tN (left.getD (m.ae.getD i default).fst.toNat default) (left.getD (m.ae.getD i default).snd.toNat default)
def PP(m:aj)(left:List (List Bool))(T:List (List Nm))(n:Nat):List (Int×Bool):=(aN n).map λi=>fe (T.getD i default) (kA m left i) (0,false)
def PK(m:aj)(left:List (List Bool))(n:Nat):List (Int×Bool):=(aN n).map λi=>(nP left (m.ar.getD i default),!(decide ((m.ar.getD i default).bM=1099511627776)&&decide (0<nP left (m.ar.getD i default))))
def cI(l:List (Int×Bool))(z:Int×Bool):Int×Bool:=l.foldl (λz p=>(z.1+p.1,z.2||!p.2)) z
def mS(m:aj)(left:List (List Bool))(g:Lg):Int :=
 if(cI (PK m left m.ar.length) (cI (PP m left g.2 m.ae.length) (cI (PC left g.1 m.cls.length) (0,false)))).2=true then 1099511627776
 else min (cI (PK m left m.ar.length) (cI (PP m left g.2 m.ae.length) (cI (PC left g.1 m.cls.length) (0,false)))).1 1099511627776
def kB(m:aj)(left:List (List Bool))(l:List Mv):Int×Int :=
 if 2000<l.length then(0,2) else if l.all (oG m)=false then(0,3) else(mS m left (mi m l (S0 m,T0 m)),0)
def Hd(l:List (Int×Bool))(p z:Int×Bool):cI (l++[p]) z=((cI l z).1+p.1,(cI l z).2||!p.2):=by unfold cI;rw[List.foldl_append];rfl
def Dz{β:Type}(f:Nat->β)(n:Nat):(aN (n+1)).map f=(aN n).map f++[f n]:=by rw[List.range_succ,List.map_append];rfl
def NB(B:Int)(r:List Nm):Prop:=∀ p∈r,-B<=p.1/\p.1<=B
def NB.get{B:Int}{r:List Nm}(h:NB B r)(hB:0<=B)(i:Nat): -B<=(r.getD i default).1/\(r.getD i default).1<=B:=by
 rcases eh i r.length with hi|hi
 ·exact h _ (aC hi)
 ·rw[aA,eE hi];show -B<=(0:Int)/\(0:Int)<=B;omega
def NB.mono{B C:Int}{r:List Nm}(h:NB B r)(hc:B<=C):NB C r:=λp hp=>by have:=h p hp;omega
def NB.add{B:Int}{r:List Nm}(h:NB B r)(hB:0<=B)(i:Nat){a:Int}(ha : -268435456<=a/\a<=268435456):NB (B+268435456) (tP r i a):=λp hp=>by
 rcases pA hp with h'|h'
 ·have:=h p h';omega
 ·have:=h.get hB i;rw[h'];dsimp only;omega
def R'(r:List Nm)(i:Nat)(a:Int):(tP r i a).length=r.length:=by simp[tP]
def G'(f:Nat->Nat)(a:Int):∀ (k:Nat) (t:List Nm),(ri f a k t).length=t.length
 |0,t=>rfl
 |k+1,t=>by rw[ri,R',G' f a k t]
def NB.sub{B:Int}{r:List Nm}(h:NB B r)(hB:0<=B)(f:Nat->Nat){a:Int}(ha : -268435456<=a/\a<=268435456):∀ k:Nat,NB (B+268435456*k) (ri f a k r)
 |0=>by simpa [ri] using h
 |k+1=>by
  rw[ri];have:=(NB.sub h hB f ha k).add I6 (f k) (a:=-a) I6;exact this.mono I6
structure LG(m:aj)(B:Int)(g:Lg):Prop where
 s:g.1.length=m.cls.length
 t:g.2.length=m.ae.length
 sl:∀ i,i<m.cls.length->(g.1.getD i default).length=(m.cls.getD i default).length
 tl:∀ i,i<m.ae.length->(g.2.getD i default).length=(m.ae.getD i default).ay.length
 sb:∀ r∈g.1,NB B r
 tb:∀ r∈g.2,NB B r
def Sa{g:List (List Nm)}{i j:Nat}{r:List Nm}(h:r.length=(g.getD i default).length):((g.set i r).getD j default).length=(g.getD j default).length:=by
 by_cases e:i=j
 ·subst e;rcases eh i g.length with hi|hi
  ·simp only[aA,bV,hi,if_true,mo];rw[h,aA]
  ·rw[List.set_eq_of_length_le hi]
 ·simp only[aA,bj e]
def DE{B:Int}{g:List (List Nm)}(h:∀ r∈g,NB B r)(i:Nat):NB B (g.getD i default):=by
 rcases eh i g.length with hi|hi
 ·exact h _ (aC hi)
 ·rw[aA,eE hi];intro p hp;cases hp
def aa4{m:aj}(hm:VM m)(x:Mv):(AH m x).2<=24:=by
 have:∀ i,(m.cls.getD i default).length<=24:=λi=>by
  rcases eh i m.cls.length with hi|hi
  ·exact hm.opt _ (aC hi)
  ·rw[aA,eE hi];exact aQ _
 unfold AH;split<;>exact this _
def Rz{m:aj}(hm:VM m){B:Int}(hB:0<=B){g:Lg}(h:LG m B g){x:Mv}(hx:oG m x=true):LG m (B+268435456*25) (nR m x g):=by
 unfold oG at hx;rw[ba,decide_eq_true_eq]at hx;have ha:=hx.1.2.2.2.2;have hk:=aa4 hm x;refine⟨by rw[nR,bE];exact h.s,by rw[nR,bE];exact h.t,λi hi=>?_,λi hi=>?_,λr hr=>?_,λr hr=>?_⟩
 ·rw[nR];dsimp only;rw[Sa (by rw[R'])];exact h.sl i hi
 ·rw[nR];dsimp only;rw[Sa (by rw[G'])];exact h.tl i hi
 ·rcases pA hr with h'|h'
  ·exact(h.sb r h').mono I6
  ·rw[h'];exact((DE h.sb _).add hB _ ha).mono I6
 ·rcases pA hr with h'|h'
  ·exact(h.tb r h').mono I6
  ·rw[h'];exact((DE h.tb _).sub hB _ ha _).mono I6
def Sb{l:List Int}(h:∀ x∈l,bL x):NB 1099511627776 (gN l):=λp hp=>by
 obtain⟨x,hx,rfl⟩:=bZ.1 hp;have:=h x hx;unfold bL at this;show -1099511627776<=x/\x<=1099511627776;omega
def C9{m:aj}{p:Pr}(hp:eS m p=true):∀ x∈p.ay,bL x:=λx hx=>by
 unfold eS at hp;simp only[ba,jW,List.any_eq_false]at hp;have:=hp.2 _ hx;rw[mR]at this;simp only[ba,jW,decide_eq_true_eq,not_and,Bool.not_eq_false]at this;by_cases hz:x=0
 ·subst hz;unfold bL;decide
 ·exact lN (this hz)
def ik{α β:Type}[Inhabited α][Inhabited β](f:α->β)(l:List α)(i:Nat)(h:i<l.length):(l.map f).getD i default=f (l.getD i default):=by
 rw[aA,cg,aA,bT h];rfl
def RN{m:aj}(hm:VM m):LG m 1099511627776 (S0 m,T0 m):=by
 refine⟨by simp[S0],by simp[T0],λi hi=>?_,λi hi=>?_,λr hr=>?_,λr hr=>?_⟩
 ·show((S0 m).getD i default).length=_;rw[S0,ik _ _ _ hi];simp[gN,jE]
 ·show((T0 m).getD i default).length=_;rw[T0,ik _ _ _ hi];simp[gN]
 ·obtain⟨l,hl,rfl⟩:=bZ.1 hr;refine Sb λx hx=>?_;obtain⟨o,ho,rfl⟩:=bZ.1 hx;exact Ao (hm.kQ l hl o ho)
 ·obtain⟨p,hp,rfl⟩:=bZ.1 hr;exact Sb (C9 (jo hm.pr p hp))
def RO{m:aj}(hm:VM m)(l:List Mv)(hl:∀ x∈l,oG m x=true):LG m (1099511627776+268435456*25*l.length) (mi m l (S0 m,T0 m)):=by
 have key:∀ (l:List Mv) (B:Int) (g:Lg),0<=B->(∀ x∈l,oG m x=true)->LG m B g->LG m (B+268435456*25*l.length) (mi m l g):=by
  intro l
  induction l with
  |nil=>intro B g _ _ h;simpa [mi] using h
  |cons x r ih =>
   intro B g hB hx h;have h1:=Rz hm hB h (hx x Jd);have h2:=ih _ _ I6 (λy hy=>hx y (by simp[hy])) h1;show LG m _ (mi m r (nR m x g));have e:B+268435456*25+268435456*25*(r.length:Int)=B+268435456*25*((x::r).length:Int):=by simp only[dz];omega
   rw[e]at h2;exact h2
 exact key l _ _ aab hl (RN hm)
def Hn{B:Int}:∀ (l:List Nm) (s:List Bool) (b:Int×Bool),NB B l->(-B<=b.1/\b.1<=B)->-B<=(fe l s b).1/\(fe l s b).1<=B
 |[],s,b,_,hb=>by cases s<;>exact hb
 |p::r,[],b,_,hb=>hb
 |p::r,is::s,b,h,hb=>by
  rw[fe];refine Hn r s _ (λq hq=>h q (by simp[hq])) ?_;have:=h p Jd;split
  ·exact this
  ·exact hb
def Sd{B:Int}:∀ (l:List (Int×Bool)) (z:Int×Bool),(∀ p∈l,-B<=p.1/\p.1<=B)->z.1-B*l.length<=(cI l z).1/\(cI l z).1<=z.1+B*l.length
 |[],z,_=>by show z.1-_<=z.1/\z.1<=z.1+_;simp
 |p::r,z,h=>by
  have h1:=Sd r (z.1+p.1,z.2||!p.2) λq hq=>h q (by simp[hq]);have h2:=h p Jd;show _<=(cI r (z.1+p.1,z.2||!p.2)).1/\_;rw[dz,Int.natCast_add,Int.mul_add];dsimp only at h1;simp only[Int.cast_ofNat_Int,Int.mul_one];show z.1-(B*r.length+B)<=(cI r (z.1+p.1,z.2||!p.2)).1/\(cI r (z.1+p.1,z.2||!p.2)).1<=z.1+(B*r.length+B);omega
def vp:Int:=1099511627776+268435456*25*2000
def aa5{left:List (List Bool)}{S:List (List Nm)}{B:Int}(hB:0<=B)(h:∀ r∈S,NB B r)(n:Nat):∀ p∈PC left S n,-B<=p.1/\p.1<=B:=λp hp=>by
 obtain⟨i,_,rfl⟩:=bZ.1 hp;exact Hn _ _ _ (DE h i) aaK
def aa6{m:aj}{left:List (List Bool)}{T:List (List Nm)}{B:Int}(hB:0<=B)(h:∀ r∈T,NB B r)(n:Nat):∀ p∈PP m left T n,-B<=p.1/\p.1<=B:=λp hp=>by
 obtain⟨i,_,rfl⟩:=bZ.1 hp;exact Hn _ _ _ (DE h i) aaK
def aa7(most bM n:Int)(hm:0<=most)(hp:0<=bM):0<=jP most bM n/\jP most bM n<=1099511627776:=by
 unfold jP;split
 ·omega
 ·have:=rR (show 0<=n-most by omega) hp;omega
def aa8{m:aj}(hm:VM m)(i:Nat):0<=(m.ar.getD i default).most/\0<=(m.ar.getD i default).bM:=by
 rcases eh i m.ar.length with hi|hi
 ·obtain⟨_,h2,h3,_⟩:=lp (hm.ct _ (aC (d:=default) hi));exact⟨h2.1,(lN h3).1⟩
 ·rw[aA,eE hi];decide
def aa9{m:aj}(hm:VM m){left:List (List Bool)}(n:Nat):∀ p∈PK m left n,-1099511627776<=p.1/\p.1<=1099511627776:=λp hp=>by
 obtain⟨i,_,rfl⟩:=bZ.1 hp;have:=aa8 hm i;have:=aa7 (m.ar.getD i default).most (m.ar.getD i default).bM (rh (m.ar.getD i default).aS 0 left 0) this.1 this.2;unfold nP;dsimp only;omega
def DF(left:List (List Bool))(S:List (List Nm))(n:Nat):(PC left S n).length=n:=by simp[PC]
def Ho(m:aj)(left:List (List Bool))(S:List (List Nm))(n:Nat):(PP m left S n).length=n:=by simp[PP]
def Se(m:aj)(left:List (List Bool))(n:Nat):(PK m left n).length=n:=by simp[PK]
def Hg(b:List Bool):∀ a:List Bool,(tN a b).length=a.length*b.length
 |[]=>by simp[tN]
 |x::r=>by
  show((b.map (x && ·))++tN r b).length=_;rw[bR,Hg b r,ed,dz,Nat.add_mul];omega
abbrev SC:=Int×Int
def AL(s:SC)(cost times:Int):SC:=if cost=1099511627776 then(s.1+times,s.2) else(s.1,s.2+cost*times)
def wI(m:aj)(plan:List Int):Int:=if eJ m≠0 then eJ m else if(!tI m plan||plan.contains (-1))=true then 17 else 0
structure FP(m:aj)(plan:List Int):Prop where
 len:plan.length=m.cls.length
 get:∀ j,j<plan.length->gW m (j:Nat) (plan.getD j 0)=true
def FP.pm{m:aj}{plan:List Int}(h:FP m plan):PM m plan:=⟨h.len,λj hj=>.inr (h.get j hj)⟩
def SB(s:SC)(n:Nat):Prop:=0<=s.1/\s.1<=1048576*n/\0<=s.2/\s.2<=1099511627776*n
def SB.zero:SB (0,0) 0:=by unfold SB;decide
def SB.mono{s:SC}{n k:Nat}(h:SB s n)(hk:n<=k):SB s k:=by unfold SB at *;omega
def aa'(c:Int):Prop:=0<=c/\c<=1048576\/c=1099511627776
def aba{c t:Int}(hc:0<=c/\c<=1048576)(ht:0<=t/\t<=1048576):0<=c*t/\c*t<=1099511627776 :=
 ⟨rR hc.1 ht.1,Int.le_trans (Int.mul_le_mul hc.2 ht.2 ht.1 I6) aab⟩
def SB.add{s:SC}{n:Nat}(h:SB s n){c t:Int}(hc:aa' c)(ht:0<=t/\t<=1048576):SB (AL s c t) (n+1):=by
 unfold SB AL at *;split
 ·dsimp only;omega
 ·have:=aba (hc.resolve_right (by assumption)) ht;dsimp only;omega
def rj:List Ld->Int->Int->Int
 |[],_,_=>0
 |x::r,i,o=>if x.cls=i/\x.opt=o then x.wt else rj r i o
def qg(l:List Ld):Nat->List Int->Int
 |_,[]=>0
 |i,o::r=>rj l i o+qg l (i+1) r
def Sf:∀ (plan:List Int) (i:Nat),qg [] i plan=0
 |[],_=>rfl
 |o::r,i=>by rw[qg,rj,Sf r];rfl
def Sg(x:Ld)(l:List Ld):∀ (plan:List Int) (i:Nat),qg (x::l) i plan=qg l i plan+if(i:Int)<=x.cls/\x.cls<i+plan.length/\plan.getD (x.cls-i).toNat 0=x.opt then x.wt-rj l x.cls x.opt else 0
 |[],i=>by rw[qg,qg,if_neg aaZ];rfl
 |o::r,i=>by
  rw[qg,qg,Sg x l r (i+1),rj];by_cases h:x.cls=i
  ·rw[if_neg (c:=((i+1:Nat):Int)<=x.cls/\_) I6];rw[show(x.cls-i).toNat=0 by omega,fQ,dz];by_cases ho:x.opt=o
   ·rw[if_pos ⟨h,ho⟩,if_pos ⟨I6,I6,ho.symm⟩,h,ho];omega
   ·rw[if_neg (λh'=>ho h'.2),if_neg (λh'=>ho h'.2.2.symm)];omega
  ·rw[if_neg (c:=x.cls=i/\x.opt=o) (λh'=>h h'.1)];have e:((i+1:Nat):Int)<=x.cls/\x.cls<(i+1:Nat)+r.length/\r.getD (x.cls-(i+1:Nat)).toNat 0=x.opt↔(i:Int)<=x.cls/\x.cls<i+(o::r).length/\(o::r).getD (x.cls-i).toNat 0=x.opt:=by
    rw[dz];by_cases bq:(i:Int)<x.cls
    ·rw[show(x.cls-i).toNat=(x.cls-(i+1:Nat)).toNat+1 by omega,ep];constructor
     ·rintro⟨a,b,c⟩;exact⟨I6,I6,c⟩
     ·rintro⟨a,b,c⟩;exact⟨I6,I6,c⟩
    ·constructor
     ·rintro⟨a,b,c⟩;omega
     ·rintro⟨a,b,c⟩;omega
   simp only[e];omega
def Sh:∀ (l:List Ld) (i o:Int),(∀ y∈l,¬ (y.cls=i/\y.opt=o))->rj l i o=0
 |[],_,_,_=>rfl
 |x::r,i,o,h=>by rw[rj,if_neg (h x Jd),Sh r i o λy hy=>h y (by simp[hy])]
def vn{m:aj}:∀ {l:List Ld} {q:Ld},dm m (some q) l=true->∀ y∈l,q.cls<y.cls\/(q.cls=y.cls/\q.opt<y.opt)
 |[],_,_,y,hy=>by simp at hy
 |x::r,q,h,y,hy=>by
  rw[dm]at h;simp only[ba,decide_eq_true_eq]at h;have h1:=Dj.1 h.1.2;rcases b8.1 hy with rfl|hy
  ·exact h1
  ·have:=vn h.2 y hy;omega
def RK{m:aj}{plan:List Int}(hp:plan.length=m.cls.length):∀ {l:List Ld} {q:Option Ld} (n:Int),dm m q l=true->kv plan l n=n+qg l 0 plan
 |[],_,n,_=>by rw[kv,Sf];omega
 |x::r,q,n,h=>by
  have hr:dm m (some x) r=true:=by
   rw[dm.eq_def]at h;simp only[ba]at h;exact h.2
  have hx:=(o8 h x Jd).1;obtain⟨a,b,c,d⟩:=gV.1 hx;rw[kv,RK hp _ hr,Sg,Sh r x.cls x.opt (λy hy he=>by have:=vn hr y hy;omega)];rw[show(x.cls-((0:Nat):Int)).toNat=x.cls.toNat by simp];by_cases e:plan.getD x.cls.toNat 0=x.opt
  ·rw[if_pos e,if_pos ⟨I6,I6,e⟩];omega
  ·rw[if_neg e,if_neg (λh'=>e h'.2.2)];omega
structure Nd where
 cls:Int
 kids:List Int
 eI:List Mv
 dh:List Int
 cells:List (List (Int×Int))
 deriving Inhabited
def Hp(l:List (Int×Int)):List AV:=[.tree 2 (rowsOf bz l)]
instance:Row Hp 1:=⟨λ_=>rfl,λx v hv=>by
 simp only[Hp,b8,k8,or_false]at hv;subst hv;exact .inr ⟨_,_,rfl⟩⟩
def cN(x:Nd):List AV:=[aa3 x.cls,.tree 1 (ints x.kids),.tree 4 (rowsOf u6 x.eI),.tree 1 (ints x.dh),.tree 1 (rowsOf Hp x.cells)]
instance:Row cN 5:=⟨λ_=>rfl,λx v hv=>by
 simp only[cN,b8,k8,or_false]at hv;rcases hv with rfl|rfl|rfl|rfl|rfl
 ·exact .inl ⟨_,rfl,rfl⟩
 all_goals exact .inr ⟨_,_,rfl⟩⟩
def cA(P:List Nd):List AV:=[.tree 5 (rowsOf cN P)]
structure PB(P:List Nd):Prop where
 wF:P.length<9223372036854775808
 kids:∀ x∈P,x.kids.length<9223372036854775808
 eI:∀ x∈P,x.eI.length<9223372036854775808
 dh:∀ x∈P,x.dh.length<9223372036854775808
 cells:∀ x∈P,x.cells.length<9223372036854775808
 cell:∀ x∈P,∀ l∈x.cells,l.length<9223372036854775808
def mT(m:aj)(x:Nd):Bool :=
 if x.cls = -1 then decide (x.kids.length=0/\(x.dh.length=0->x.cells.length=0)/\(0<x.dh.length->x.eI.length=0))
 else decide (0<=x.cls/\x.cls<m.cls.length/\x.kids.length=(m.cls.getD x.cls.toNat default).length/\x.eI.length=0/\x.dh.length=0/\x.cells.length=0)
def oI(n i:Nat)(k:Int):Bool:=decide ((i:Int)<k/\k<n)
def lv(m:aj)(n i:Nat)(x:Nd):Bool:=mT m x&&x.kids.all (oI n i)
def iJ(P:List Nd):List Int:=P.flatMap (·.kids)
def jG(n:Nat)(l:List Int):List Int:=(aN n).map λ(j:Nat)=>(l.count (j:Int):Int)
def lx(m:aj)(P:List Nd):Bool :=
 decide (1<=P.length/\P.length<=20000)&&((aN P.length).all λi=>lv m P.length i (P.getD i default))&&!((jG P.length (iJ P)).drop 1).any (λx=>x != 1)
def DG(n:Nat)(l:List Int):(jG n l).length=n:=by simp[jG]
def Si{n:Nat}(l:List Int){j:Nat}(h:j<n):(jG n l).getD j 0=(l.count (j:Int):Int):=by
 unfold jG;rw[aA,cg,oN h];rfl
def abb(n:Nat)(l:List Int)(k:Nat)(h:k<n):jG n (l++[(k:Int)])=(jG n l).set k ((jG n l).getD k 0+1):=by
 apply mZ;intro j;rw[bV,Si l h];unfold jG;rw[cg,ed,List.length_range];by_cases hj:j<n
 ·rw[oN hj,fR,List.count_append];by_cases e:k=j
  ·subst e;rw[if_pos rfl,if_pos h];simp
  ·rw[if_neg e,cg,oN hj,fR];have:((k:Int)==(j:Int))=false:=by rw[beq_eq_false_iff_ne];omega
   simp[List.count_cons,this]
 ·rw[eE (by simpa using hj)];split
  ·omega
  ·rw[eE (by simpa using hj)];rfl
def abc(n:Nat):jG n []=List.replicate n 0:=by
 apply mZ;intro j;unfold jG;rw[cg,List.getElem?_replicate];by_cases hj:j<n
 ·rw[oN hj,if_pos hj];rfl
 ·rw[eE (by simpa using hj),if_neg hj];rfl
def DH{m:aj}{x:Nd}(hm:VM m)(h:mT m x=true):x.kids.length<=24:=by
 unfold mT at h;split at h
 ·rw[decide_eq_true_eq]at h;omega
 ·rw[decide_eq_true_eq]at h;have:=hm.opt _ (aC (l:=m.cls) (i:=x.cls.toNat) (d:=default) I6);omega
def Sj{m:aj}{n:Nat}(hm:VM m):∀ (P:List Nd),(∀ x∈P,mT m x=true)->(iJ P).length<=24*P.length
 |[],_=>by simp[iJ]
 |x::r,h=>by
  have h1:=DH hm (h x Jd);have h2:=Sj (n:=n) hm r λy hy=>h y (by simp[hy]);unfold iJ at h2 ⊢;rw[List.flatMap_cons,bR,dz];omega
def abd{n:Nat}{l:List Int}{j:Nat}(h:j<n):0<=(jG n l).getD j 0/\(jG n l).getD j 0<=l.length:=by
 rw[Si l h];have:=List.count_le_length (a:=(j:Int)) (l:=l);omega
def Sk(P:List Nd)(x:Nd):iJ (P++[x])=iJ P++x.kids:=by unfold iJ;rw[List.flatMap_append];simp
def Sl{m:aj}{P:List Nd}{i:Nat}(hi:i<P.length)(h:lv m P.length i (P.getD i default)=false):lx m P=false:=by
 unfold lx;have:((aN P.length).all λi=>lv m P.length i (P.getD i default))=false:=by
  rw[Bool.eq_false_iff];intro h2;rw[gz]at h2;rw[h2 i (lz.2 hi)]at h;cases h
 rw[this,Bool.and_false,lY]
def Sm{m:aj}{P:List Nd}(h:¬(1<=P.length/\P.length<=20000)):lx m P=false:=by
 unfold lx;rw[decide_eq_false h,lY,lY]
def Sn{m:aj}{P:List Nd}(h:1<=P.length/\P.length<=20000)(ha:∀ i,i<P.length->lv m P.length i (P.getD i default)=true):lx m P = !((jG P.length (iJ P)).drop 1).any (λx=>x != 1):=by
 unfold lx;have:((aN P.length).all λi=>lv m P.length i (P.getD i default))=true:=by
  rw[gz];intro i hi;exact ha i (lz.1 hi)
 rw[this,decide_eq_true h,iq,iq]
def So:∀ (l:List Int) (i:Nat) (x:Int),i<l.length->iI (l.set i x)=iI l-l.getD i 0+x
 |[],i,x,h=>by simp at h
 |y::r,0,x,_=>by simp only[List.set_cons_zero,iI,fQ];omega
 |y::r,i+1,x,h=>by
  have:=So r i x (by simpa using h);simp only[List.set_cons_succ,iI,ep];omega
structure Rel(R:Int)(out:List Int)(s:SC)(n:Nat):Prop where
 ok:iV R out
 b0:0<=s.1
 c0:0<=s.2/\s.2<=1048576*n
 eq:s.1=0->iI out=s.2
 ff:0<s.1->1099511627776∈out
def Rel.mono{R:Int}{out:List Int}{s:SC}{n k:Nat}(h:Rel R out s n)(hk:n<=k):Rel R out s k :=
 ⟨h.ok,h.b0,by have:=h.c0;omega,h.eq,h.ff⟩
def Rel.add{R:Int}{out:List Int}{s:SC}{n k:Nat}(h:Rel R out s n){r d c t:Int}(hr:0<=r/\r<R)(ht:0<=t)(hc:(c=1099511627776/\d=if 0<t then 1099511627776 else 0)\/(c≠1099511627776/\d=c*t/\0<=d/\d<=1048576*k))(hb:n+k<1048576):
  Rel R (eU out r d) (AL s c t) (n+k):=by
 have dL:bL d:=by
  unfold bL;rcases hc with⟨_,h⟩|⟨_,_,h1,h2⟩
  ·rw[h];split<;>omega
  ·omega
 have hlen:=h.ok.1;have hi:r.toNat<out.length:=I6;have hg:=h.ok.get r.toNat;have cR:=aC (d:=(0:Int)) hi;have hs:=GU h.ok.2 _ cR;have gr:=So out r.toNat (dx (out.getD r.toNat 0) d) hi;have nB:=h.c0;have yA:=h.b0;have AM:dx (out.getD r.toNat 0) d∈eU out r d:=by
  unfold eU;have:(out.set r.toNat (dx (out.getD r.toNat 0) d)).getD r.toNat 0=dx (out.getD r.toNat 0) d:=by
   rw[aA,EU hi];rfl
  have Hq:=aC (l:=out.set r.toNat (dx (out.getD r.toNat 0) d)) (i:=r.toNat) (d:=0) (by simpa using hi);rwa [this]at Hq
 have Sp:1099511627776∈out->1099511627776∈eU out r d:=by
  intro hm;obtain⟨j,hj,Sr⟩:=rJ.1 hm;by_cases Ss:r.toNat=j
  ·subst Ss;have:out.getD r.toNat 0=1099511627776:=by rw[aA,bT hj];exact Sr
   rw[this]at AM;have e:dx 1099511627776 d=1099511627776:=by unfold bL at dL;unfold dx;omega
   rwa [e]at AM
  ·have:(eU out r d).getD j 0=1099511627776:=by
    unfold eU;rw[aA,bj Ss,bT hj];exact Sr
   have Hq:=aC (l:=eU out r d) (i:=j) (d:=0) (by unfold eU;simpa using hj);rwa [this]at Hq
 unfold bL at hg dL;rcases hc with⟨Hs,hd⟩|⟨Hs,hd,hd0,Su⟩
 ·unfold AL;rw[if_pos Hs];refine⟨h.ok.add (by unfold bL;exact dL),aaK,aaK,λhz=>?_,λhz=>?_⟩
  ·dsimp only at hz ⊢;have:d=0:=by rw[hd,if_neg I6]
   rw[<- h.eq I6];unfold eU;rw[gr];unfold dx;omega
  ·dsimp only at hz;by_cases htz:0<t
   ·have:dx (out.getD r.toNat 0) d=1099511627776:=by rw[hd,if_pos htz];unfold dx;omega
    rwa [this]at AM
   ·exact Sp (h.ff I6)
 ·unfold AL;rw[if_neg Hs,<- hd];refine⟨h.ok.add (by unfold bL;exact dL),aaK,aaK,λhz=>?_,λhz=>?_⟩
  ·dsimp only at hz ⊢;have he:=h.eq hz;unfold eU;rw[gr];unfold dx;omega
  ·exact Sp (h.ff hz)
def Sv{m:aj}:∀ (plan:List Int) (i:Nat),(∀ j,j<plan.length->plan.getD j 0 = -1\/gW m ((i+j:Nat):Int) (plan.getD j 0)=true)->tH m i plan=true
 |[],_,_=>rfl
 |o::r,i,h=>by
  rw[tH,ba,Bool.or_eq_true,decide_eq_true_eq];refine⟨by simpa using h 0 Jd,Sv r (i+1) λj hj=>?_⟩;have:=h (j+1) (by simpa using hj);rwa [ep,show i+(j+1)=i+1+j by omega]at this
def Sw{m:aj}{plan:List Int}(h:PM m plan):tI m plan=true:=by
 rw[tI,if_neg (by rw[h.len];simp)];exact Sv plan 0 λj hj=>by rw[Nat.zero_add];exact h.get j hj
def NL{m:aj}{plan:List Int}(hm:VM m)(hp:PM m plan):sx m plan=(jO (iC m plan) 0,iC m plan,0):=by
 rw[sx,if_neg (by rw[fc.2 hm];simp),if_neg (by rw[Sw hp];simp)];rfl
def abf{m:aj}{plan:List Int}(hm:VM m)(hp:FP m plan):wI m plan=0:=by
 unfold wI;rw[if_neg (by rw[fc.2 hm];simp),Sw hp.pm,if_neg];simp only[lA,Bool.false_or,Bool.not_eq_true];cases h:plan.contains (-1) with
 |false=>rfl
 |true =>
  obtain⟨j,hj,e⟩:=rJ.1 (sV.1 h);have:=gV.1 (hp.get j hj);rw[aA,bT hj]at this;simp only[mo]at this;omega
def DI(m:aj)(a x b y:Int)(p:Pr):Bool:=decide (p.fst=a/\p.snd=b/\mP m p x y=1099511627776)
def vq(m:aj)(a x b y:Int):Bool:=if b<a then m.ae.any (DI m b y a x) else m.ae.any (DI m a x b y)
def abg{m:aj}{a x b y:Int}(h:a≠b):vq m a x b y=vq m b y a x:=by
 unfold vq;by_cases h1:b<a
 ·rw[if_pos h1,if_neg I6]
 ·rw[if_neg h1,if_pos I6]
structure CI(m:aj)(plan out mv:List Int):Prop where
 fp:FP m out
 nd:mv.Nodup
 rg:∀ x∈mv,0<=x/\x<out.length
 un:∀ y:Nat,y<out.length->¬ (y:Int)∈mv->out.getD y 0=plan.getD y 0
def Ht:∀ {n:Nat} {l:List Int},l.Nodup->(∀ x∈l,0<=x/\x<n)->l.length<=n
 |0,l,h,hr=>by
  cases l with
  |nil=>simp
  |cons x r=>have:=hr x Jd;omega
 |n+1,l,h,hr=>by
  by_cases hm:(n:Int)∈l
  ·have h1:=List.length_erase_of_mem hm;have h2:=Ht (n:=n) (h.erase (n:Int)) λx hx=>by
    have h3:=(List.Nodup.mem_erase_iff h).1 hx;have:=hr x h3.2;omega
   omega
  ·have:=Ht (n:=n) h λx hx=>by
    have:=hr x hx;have:x≠n:=λe=>hm (e▸hx);omega
   omega
def CI.len{m:aj}{plan out mv:List Int}(h:CI m plan out mv):mv.length<=out.length:=Ht h.nd h.rg
def CI.step{m:aj}{plan out mv:List Int}(h:CI m plan out mv){y:Nat}(hy:y<out.length)(hm:¬ (y:Int)∈mv){o:Int}(ho:gW m (y:Nat) o=true):CI m plan (out.set y o) (mv++[(y:Int)]):=by
 refine⟨?_,?_,?_,?_⟩
 ·refine⟨by rw[bE];exact h.fp.len,λj hj=>?_⟩;rw[bE]at hj;by_cases e:y=j
  ·subst e;rw[aA,EU hj];exact ho
  ·rw[aA,bj e,<- aA];exact h.fp.get j hj
 ·rw[List.nodup_append];refine⟨h.nd,Jd,λa ha b hb=>?_⟩;rw[ew]at hb;subst hb;intro e;subst e;exact hm ha
 ·intro x hx;rw[bE];rcases cj.1 hx with hx|hx
  ·exact h.rg x hx
  ·rw[ew.1 hx];omega
 ·intro j hj hn;rw[bE]at hj;rw[cj,not_or,ew]at hn;rw[aA,bj I6,<- aA];exact h.un j hj hn.1
def Sx(c o:Int)(y:Int×Int):Bool:=decide (y=(c,o))
def Sy(m:aj)(a b:Int×Int):Bool:=decide (a.1=b.1)||vq m a.1 a.2 b.1 b.2
def Sz(m:aj)(g:List Int)(l:List (Int×Int))(i:Nat):Bool:=g.contains (l.getD i default).1&&gW m (l.getD i default).1 (l.getD i default).2&&(l.take i).all (Sy m (l.getD i default))
def SA(m:aj)(g:List Int)(l:List (Int×Int)):Bool:=(aN l.length).all (Sz m g l)
def SD(m:aj)(g:List Int):Bool:=(aN g.length).all λi=>decide (0<=g.getD i 0/\g.getD i 0<m.cls.length/\(i=0\/g.getD (i-1) 0<g.getD i 0))
def SE(left:List (List Bool))(cells:List (List (Int×Int)))(c:Int):Bool :=
 (aN (left.getD c.toNat default).length).all λo=>!(left.getD c.toNat default).getD o false||cells.any λl=>l.any (Sx c o)
def DJ(m:aj)(x:Nd)(left:List (List Bool)):Bool :=
 SD m x.dh&&decide (x.cells.length<x.dh.length)&&x.cells.all (SA m x.dh)&&x.dh.all (SE left x.cells)
def DK{n:Nat}{f:Nat->Bool}:(aN n).all f=true↔∀ i,i<n->f i=true:=by
 rw[gz];exact⟨λh i hi=>h i (lz.2 hi),λh i hi=>h i (lz.1 hi)⟩
def abh{m:aj}{g:List Int}(h:SD m g=true):∀ c∈g,0<=c/\c<m.cls.length:=λc hc=>by
 obtain⟨i,hi,rfl⟩:=List.getElem_of_mem hc;have:=DK.1 h i hi;rw[decide_eq_true_eq,aA,bT hi]at this;exact⟨this.1,this.2.1⟩
def tS(v:Int):List Int->Int->Int
 |[],_=>-1
 |x::r,k=>if v=x then k else tS v r (k+1)
def SF(v:Int):∀ (l:List Int) (k:Int),0<=k->(0<=tS v l k↔v∈l)
 |[],k,hk=>by simp[tS]
 |x::r,k,hk=>by
  rw[tS];split
  ·rename_i h;simp[h,hk]
  ·rename_i h;rw[SF v r (k+1) I6];simp[h]
def abi(l:List Int)(v:Int)(hl:l.length<9223372036854775808):an Tryz.prog 165 [.tree 1 (ints l),aa3 v] [] (aa3 (tS v l 0)) []:=by
 generalize ao:tS v l 0=res;refine an.aF 19 0 [.tmp 4] Tryz.func165 ?_;repeat'(first|(refine Xr X0 ?_;intro K hK)|(refine hK _ ?_;clear hK K)|refine Xz ?_|fail)
 refine aW (λk:Nat=>(⟨ax [(0,.tree 1 (ints l)),(1,aa3 v),(7,aa3 l.length),(8,aa3 k)],[]⟩:St)) (λk=>k<=l.length/\tS v (l.drop k) k=res) (λk=>l.length-k) 0 ⟨aQ _,ao⟩ (Xv X0) ?_;rintro k⟨hk,hr⟩Ql aq au;by_cases aJ:k<l.length
 ·have hd:=cS l k 0 aJ;generalize bb:l.getD k 0=x at *;rw[hd,tS]at hr;((repeat'(first|refine Va @bb ?_|(refine Xi ?_ ?_<;>try intro ht)|exact Xx|fail)))
  ·rw[if_pos (by assumption)]at hr;repeat(refine Xu ?_)
   refine Vb X0 ?_;rw[<- hr];exact BW rfl
  ·rw[if_neg (by assumption)]at hr;exact aq _ (k+1) ⟨I6,hr⟩ I6 (Xv X0)
 ·((repeat'(first|refine Va X0 ?_|(refine Xi ?_ ?_<;>try intro ht)|exact Xx|fail)))
  rw[List.drop_eq_nil_of_le I6,tS]at hr;refine au _ _ rfl ?_;clear aq au Ql;repeat(refine Xu ?_)
  refine Vb X0 ?_;rw[<- hr];exact BW rfl
def SG(l:List Int)(v:Int)(hl:l.length<9223372036854775808):an Tryz.prog 122 [.tree 1 (ints l),aa3 v] [] (.lit (.bool (l.contains v))) []:=by
 have h:=SF v l 0 I6;refine an.aF 9 0 [.tmp 4] Tryz.func122 ?_;repeat'(first|(refine Xq X0 ?_;intro K hK)|refine Xo X0 ?_|refine Xc (abi l v hl) ?_|(refine hK _ ?_;clear hK K)|refine Xz ?_|(refine Xe ?_;first|refine aO rfl ?_|refine Xl ?_ ?_)|fail)
 rw[<- sV]at h;cases hb:l.contains v<;>rw[hb]at h
 ·rw[decide_eq_false (by simpa using h)]
 ·rw[decide_eq_true (by simpa using h)]
def Y3(m:aj)(plan:List Int)(hb:MB m)(cE:plan.length<9223372036854775808):an Tryz.prog 71 [.agg (av m),.tree 1 (ints plan)] [] (aa3 (wI m plan)) []:=by
 generalize ao:wI m plan=res;unfold wI at ao;refine an.aF 19 0 [.tmp 4] Tryz.func71 ?_;repeat'(first|(refine Xq X0 ?_;intro K hK)|refine Xo X0 ?_|refine Xc (p5 m hb) ?_|refine Xc (Rh m plan cE) ?_|refine Xc (SG plan (-1) cE) ?_|(refine hK _ ?_;clear hK K)|(refine Xg X0 ?_ ?_<;>try intro hb)|(refine Xi ?_ ?_<;>try intro ht)|refine Xz ?_|(refine Xe ?_;first|refine aO rfl ?_|refine Xl ?_ ?_)|exact Xx|fail)
 all_goals(rw[<- ao];first|(rw[if_pos (by assumption)];done)|(rw[if_neg I6,if_pos (by simp only[*,lA,Bool.not_false,Bool.true_or,Bool.or_true])];done)|(rw[if_neg I6,if_neg (by simp only[*,lA,Bool.or_false,Bool.false_eq_true,not_false_eq_true])];done))
end T

