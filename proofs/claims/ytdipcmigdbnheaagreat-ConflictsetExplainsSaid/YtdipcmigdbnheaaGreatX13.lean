import Derived.Test.YtdipcmigdbnheaaGreatX12
set_option linter.all false
set_option maxHeartbeats 0
set_option maxRecDepth 20000
open List renaming foldl_append→BK,range→aW,getD_eq_getElem?_getD→aA,getElem?_eq_none→dW,mem_or_eq_of_mem_set→tz,getElem?_set→cA,getElem?_set_ne→bR,length_set→bF,mem_map→cz,getElem?_map→cj,getElem?_eq_getElem→bK,length_cons→eB,flatMap_append→rA,length_append→bQ,length_map→dX,contains_iff_mem→rq,getD_cons_zero→iF,getD_cons_succ→fU,mem_cons→cB,not_mem_nil→kI,getElem?_range→lg,ext_getElem?→kq,all_eq_true→fT,mem_range→mH,getElem?_set_self→Kg,mem_iff_getElem→uz,mem_singleton→fE,mem_append→cH,getElem_of_mem→mJ,take_zero→kK,length_take→eN,take_length→rB,length_drop→xi,cons_append→dS,nil_append→dY,drop_eq_nil_of_le→cR
open Nat renaming lt_or_ge→fK,zero_le→aI,not_lt_zero→m8,le_refl→aN
open Option renaming getD_some→jB,map_some→fl
open Bool renaming and_eq_true→bw,not_eq_true'→ld,not_eq_false→z7,or_eq_true→l9,not_eq_true→PG,false_or→ma,eq_false_iff→BJ,and_false→PE,false_and→jR,true_and→eQ,not_true→gT
open Int renaming mul_nonneg→sF
open Go Go.Am Go.Proofs
namespace T
def S0(m:aj):List (List Nm):=m.cls.map λl=>ep (gG l)
def T0(m:aj):List (List Nm):=m.ae.map λp=>ep p.aB
def kl(r:List Nm)(i:Nat)(a:Int):List Nm:=r.set i ((r.getD i default).1+a,(r.getD i default).2)
def iB(f:Nat->Nat)(a:Int):Nat->List Nm->List Nm
 |0,t=>t
 |k+1,t=>kl (iB f a k t) (f k) (-a)
abbrev Lg:=List (List Nm)×List (List Nm)
def pw(m:aj)(x:Mv):(Nat->Nat)×Nat :=
 if x.side=0 then(λk=>(x.opt*(m.cls.getD (m.ae.getD x.pair.toNat default).snd.toNat default).length+k).toNat,(m.cls.getD (m.ae.getD x.pair.toNat default).snd.toNat default).length)
 else(λk=>((k:Int)*(m.cls.getD (m.ae.getD x.pair.toNat default).snd.toNat default).length+x.opt).toNat,(m.cls.getD (m.ae.getD x.pair.toNat default).fst.toNat default).length)
def kC(m:aj)(x:Mv)(g:Lg):Lg :=
 (g.1.set (fR m x).toNat (kl (g.1.getD (fR m x).toNat default) x.opt.toNat x.dR),g.2.set x.pair.toNat (iB (pw m x).1 x.dR (pw m x).2 (g.2.getD x.pair.toNat default)))
def jd(m:aj)(l:List Mv)(g:Lg):Lg:=l.foldl (λg x=>kC m x g) g
def ZQ(m:aj)(l:List Mv)(x:Mv)(g:Lg):jd m (l++[x]) g=kC m x (jd m l g):=by unfold jd;rw[BK];rfl
def sk(a b:List Bool):List Bool:=a.flatMap λx=>b.map λy=>x&&y
def PC(left:List (List Bool))(S:List (List Nm))(n:Nat):List (Int×Bool):=(aW n).map λi=>dQ (S.getD i default) (left.getD i default) (0,false)
def gZ(m:aj)(left:List (List Bool))(i:Nat):List Bool:=sk (left.getD (m.ae.getD i default).fst.toNat default) (left.getD (m.ae.getD i default).snd.toNat default)
def PP(m:aj)(left:List (List Bool))(T:List (List Nm))(n:Nat):List (Int×Bool):=(aW n).map λi=>dQ (T.getD i default) (gZ m left i) (0,false)
def PK(m:aj)(left:List (List Bool))(n:Nat):List (Int×Bool):=(aW n).map λi=>(jJ left (m.av.getD i default),!(decide ((m.av.getD i default).bM=1099511627776)&&decide (0<jJ left (m.av.getD i default))))
def cf(l:List (Int×Bool))(z:Int×Bool):Int×Bool:=l.foldl (λz p=>(z.1+p.1,z.2||!p.2)) z
def oR(m:aj)(left:List (List Bool))(g:Lg):Int :=
 if(cf (PK m left m.av.length) (cf (PP m left g.2 m.ae.length) (cf (PC left g.1 m.cls.length) (0,false)))).2=true then 1099511627776
 else min (cf (PK m left m.av.length) (cf (PP m left g.2 m.ae.length) (cf (PC left g.1 m.cls.length) (0,false)))).1 1099511627776
def iC(m:aj)(left:List (List Bool))(l:List Mv):Int×Int :=
 if 2000<l.length then(0,2) else if l.all (jL m)=false then(0,3) else(oR m left (jd m l (S0 m,T0 m)),0)
def CP(m:aj)(left:List (List Bool))(l:List Mv):Int×Int:=if IS m left≠0 then(0,IS m left) else iC m left l
def A6(l:List (Int×Bool))(p z:Int×Bool):cf (l++[p]) z=((cf l z).1+p.1,(cf l z).2||!p.2):=by unfold cf;rw[BK];rfl
def wL{β:Type}(f:Nat->β)(n:Nat):(aW (n+1)).map f=(aW n).map f++[f n]:=by rw[List.range_succ,List.map_append];rfl
def NB(B:Int)(r:List Nm):Prop:=∀ p∈r,-B<=p.1/\p.1<=B
def NB.get{B:Int}{r:List Nm}(h:NB B r)(hB:0<=B)(i:Nat): -B<=(r.getD i default).1/\(r.getD i default).1<=B:=by
 rcases fK i r.length with hi|hi
 ·exact h _ (ay hi)
 ·rw[aA,dW hi];show -B<=(0:Int)/\(0:Int)<=B;omega
def NB.mono{B C:Int}{r:List Nm}(h:NB B r)(hc:B<=C):NB C r:=λp hp=>by have:=h p hp;omega
def NB.add{B:Int}{r:List Nm}(h:NB B r)(hB:0<=B)(i:Nat){a:Int}(ha : -268435456<=a/\a<=268435456):NB (B+268435456) (kl r i a):=λp hp=>by
 rcases tz hp with h'|h'
 ·have:=h p h';omega
 ·have:=h.get hB i;rw[h'];dsimp only;omega
def yg(r:List Nm)(i:Nat)(a:Int):(kl r i a).length=r.length:=by simp[kl]
def A5(f:Nat->Nat)(a:Int):∀ (k:Nat) (t:List Nm),(iB f a k t).length=t.length
 |0,t=>rfl
 |k+1,t=>by rw[iB,yg,A5 f a k t]
def NB.sub{B:Int}{r:List Nm}(h:NB B r)(hB:0<=B)(f:Nat->Nat){a:Int}(ha : -268435456<=a/\a<=268435456):∀ k:Nat,NB (B+268435456*k) (iB f a k r)
 |0=>by simpa [iB] using h
 |k+1=>by
  rw[iB];have:=(NB.sub h hB f ha k).add GC (f k) (a:=-a) GC;exact this.mono GC
structure LG(m:aj)(B:Int)(g:Lg):Prop where
 s:g.1.length=m.cls.length
 t:g.2.length=m.ae.length
 sl:∀ i,i<m.cls.length->(g.1.getD i default).length=(m.cls.getD i default).length
 tl:∀ i,i<m.ae.length->(g.2.getD i default).length=(m.ae.getD i default).aB.length
 sb:∀ r∈g.1,NB B r
 tb:∀ r∈g.2,NB B r
def ZR{g:List (List Nm)}{i j:Nat}{r:List Nm}(h:r.length=(g.getD i default).length):((g.set i r).getD j default).length=(g.getD j default).length:=by
 by_cases e:i=j
 ·subst e;rcases fK i g.length with hi|hi
  ·simp only[aA,cA,hi,if_true,jB];rw[h,aA]
  ·rw[List.set_eq_of_length_le hi]
 ·simp only[aA,bR e]
def uh{B:Int}{g:List (List Nm)}(h:∀ r∈g,NB B r)(i:Nat):NB B (g.getD i default):=by
 rcases fK i g.length with hi|hi
 ·exact h _ (ay hi)
 ·rw[aA,dW hi];intro p hp;cases hp
def aiF{m:aj}(hm:VM m)(x:Mv):(pw m x).2<=24:=by
 have:∀ i,(m.cls.getD i default).length<=24:=λi=>by
  rcases fK i m.cls.length with hi|hi
  ·exact hm.opt _ (ay hi)
  ·rw[aA,dW hi];exact aI _
 unfold pw;split<;>exact this _
def Zl{m:aj}(hm:VM m){B:Int}(hB:0<=B){g:Lg}(h:LG m B g){x:Mv}(hx:jL m x=true):LG m (B+268435456*25) (kC m x g):=by
 unfold jL at hx;rw[bw,decide_eq_true_eq]at hx;have ha:=hx.1.2.2.2.2;have hk:=aiF hm x;refine⟨by rw[kC,bF];exact h.s,by rw[kC,bF];exact h.t,λi hi=>?_,λi hi=>?_,λr hr=>?_,λr hr=>?_⟩
 ·rw[kC];dsimp only;rw[ZR (by rw[yg])];exact h.sl i hi
 ·rw[kC];dsimp only;rw[ZR (by rw[A5])];exact h.tl i hi
 ·rcases tz hr with h'|h'
  ·exact(h.sb r h').mono GC
  ·rw[h'];exact((uh h.sb _).add hB _ ha).mono GC
 ·rcases tz hr with h'|h'
  ·exact(h.tb r h').mono GC
  ·rw[h'];exact((uh h.tb _).sub hB _ ha _).mono GC
def ZS{l:List Int}(h:∀ x∈l,b7 x):NB 1099511627776 (ep l):=λp hp=>by
 obtain⟨x,hx,rfl⟩:=cz.1 hp;have:=h x hx;unfold b7 at this;show -1099511627776<=x/\x<=1099511627776;omega
def Im{m:aj}{p:Pr}(hp:gH m p=true):∀ x∈p.aB,b7 x:=λx hx=>by
 unfold gH at hp;simp only[bw,ld,List.any_eq_false]at hp;have:=hp.2 _ hx;rw[pY]at this;simp only[bw,ld,decide_eq_true_eq,not_and,z7]at this;by_cases hz:x=0
 ·subst hz;unfold b7;decide
 ·exact lz (this hz)
def iR{α β:Type}[Inhabited α][Inhabited β](f:α->β)(l:List α)(i:Nat)(h:i<l.length):(l.map f).getD i default=f (l.getD i default):=by
 rw[aA,cj,aA,bK h];rfl
def Zy{m:aj}(hm:VM m):LG m 1099511627776 (S0 m,T0 m):=by
 refine⟨by simp[S0],by simp[T0],λi hi=>?_,λi hi=>?_,λr hr=>?_,λr hr=>?_⟩
 ·show((S0 m).getD i default).length=_;rw[S0,iR _ _ _ hi];simp[ep,gG]
 ·show((T0 m).getD i default).length=_;rw[T0,iR _ _ _ hi];simp[ep]
 ·obtain⟨l,hl,rfl⟩:=cz.1 hr;refine ZS λx hx=>?_;obtain⟨o,ho,rfl⟩:=cz.1 hx;exact EO (hm.mA l hl o ho)
 ·obtain⟨p,hp,rfl⟩:=cz.1 hr;exact ZS (Im (iA hm.pr p hp))
def Fh{m:aj}(hm:VM m)(l:List Mv)(hl:∀ x∈l,jL m x=true):LG m (1099511627776+268435456*25*l.length) (jd m l (S0 m,T0 m)):=by
 have key:∀ (l:List Mv) (B:Int) (g:Lg),0<=B->(∀ x∈l,jL m x=true)->LG m B g->LG m (B+268435456*25*l.length) (jd m l g):=by
  intro l
  induction l with
  |nil=>intro B g _ _ h;simpa [jd] using h
  |cons x r ih =>
   intro B g hB hx h;have h1:=Zl hm hB h (hx x GF);have h2:=ih _ _ GC (λy hy=>hx y (by simp[hy])) h1;show LG m _ (jd m r (kC m x g));have e:B+268435456*25+268435456*25*(r.length:Int)=B+268435456*25*((x::r).length:Int):=by simp only[eB];omega
   rw[e]at h2;exact h2
 exact key l _ _ Px hl (Zy hm)
def Fk{B:Int}:∀ (l:List Nm) (s:List Bool) (b:Int×Bool),NB B l->(-B<=b.1/\b.1<=B)->-B<=(dQ l s b).1/\(dQ l s b).1<=B
 |[],s,b,_,hb=>by cases s<;>exact hb
 |p::r,[],b,_,hb=>hb
 |p::r,is::s,b,h,hb=>by
  rw[dQ];refine Fk r s _ (λq hq=>h q (by simp[hq])) ?_;have:=h p GF;split
  ·exact this
  ·exact hb
def yh{B:Int}:∀ (l:List (Int×Bool)) (z:Int×Bool),(∀ p∈l,-B<=p.1/\p.1<=B)->z.1-B*l.length<=(cf l z).1/\(cf l z).1<=z.1+B*l.length
 |[],z,_=>by show z.1-_<=z.1/\z.1<=z.1+_;simp
 |p::r,z,h=>by
  have h1:=yh r (z.1+p.1,z.2||!p.2) λq hq=>h q (by simp[hq]);have h2:=h p GF;show _<=(cf r (z.1+p.1,z.2||!p.2)).1/\_;rw[eB,Int.natCast_add,Int.mul_add];dsimp only at h1;simp only[Int.cast_ofNat_Int,Int.mul_one];show z.1-(B*r.length+B)<=(cf r (z.1+p.1,z.2||!p.2)).1/\(cf r (z.1+p.1,z.2||!p.2)).1<=z.1+(B*r.length+B);omega
def jM:Int:=1099511627776+268435456*25*2000
def IT{left:List (List Bool)}{S:List (List Nm)}{B:Int}(hB:0<=B)(h:∀ r∈S,NB B r)(n:Nat):∀ p∈PC left S n,-B<=p.1/\p.1<=B:=λp hp=>by
 obtain⟨i,_,rfl⟩:=cz.1 hp;exact Fk _ _ _ (uh h i) PA
def IU{m:aj}{left:List (List Bool)}{T:List (List Nm)}{B:Int}(hB:0<=B)(h:∀ r∈T,NB B r)(n:Nat):∀ p∈PP m left T n,-B<=p.1/\p.1<=B:=λp hp=>by
 obtain⟨i,_,rfl⟩:=cz.1 hp;exact Fk _ _ _ (uh h i) PA
def ZT(most bM n:Int)(hm:0<=most)(hp:0<=bM):0<=j4 most bM n/\j4 most bM n<=1099511627776:=by
 unfold j4;split
 ·omega
 ·have:=sF (show 0<=n-most by omega) hp;omega
def aiG{m:aj}(hm:VM m)(i:Nat):0<=(m.av.getD i default).most/\0<=(m.av.getD i default).bM:=by
 rcases fK i m.av.length with hi|hi
 ·obtain⟨_,h2,h3,_⟩:=lS (hm.ct _ (ay (d:=default) hi));exact⟨h2.1,(lz h3).1⟩
 ·rw[aA,dW hi];decide
def IV{m:aj}(hm:VM m){left:List (List Bool)}(n:Nat):∀ p∈PK m left n,-1099511627776<=p.1/\p.1<=1099511627776:=λp hp=>by
 obtain⟨i,_,rfl⟩:=cz.1 hp;have:=aiG hm i;have:=ZT (m.av.getD i default).most (m.av.getD i default).bM (k7 (m.av.getD i default).aH 0 left 0) this.1 this.2;unfold jJ;dsimp only;omega
def wP(left:List (List Bool))(S:List (List Nm))(n:Nat):(PC left S n).length=n:=by simp[PC]
def zK(m:aj)(left:List (List Bool))(S:List (List Nm))(n:Nat):(PP m left S n).length=n:=by simp[PP]
def CQ(m:aj)(left:List (List Bool))(n:Nat):(PK m left n).length=n:=by simp[PK]
def aiH(a:List Bool)(x:Bool)(b:List Bool):sk (a++[x]) b=sk a b++b.map (x && ·):=by unfold sk;rw[rA];simp
def Fi(b:List Bool):∀ a:List Bool,(sk a b).length=a.length*b.length
 |[]=>by simp[sk]
 |x::r=>by
  show((b.map (x && ·))++sk r b).length=_;rw[bQ,Fi b r,dX,eB,Nat.add_mul];omega
abbrev SC:=Int×Int
def Fl(s:SC)(cost times:Int):SC:=if cost=1099511627776 then(s.1+times,s.2) else(s.1,s.2+cost*times)
def pg(m:aj)(plan:List Int):Int:=if df m≠0 then df m else if(!qU m plan||plan.contains (-1))=true then 17 else 0
structure FP(m:aj)(plan:List Int):Prop where
 len:plan.length=m.cls.length
 get:∀ j,j<plan.length->eW m (j:Nat) (plan.getD j 0)=true
def L8{m:aj}{plan:List Int}(h:pg m plan=0):VM m/\FP m plan:=by
 unfold pg at h;split at h
 ·omega
 split at h
 ·omega
 rename_i h1 h2;have hv:=eK.1 (Decidable.not_not.1 h1);simp only[l9,ld,not_or,z7,PG]at h2;have hp:=MJ h2.1;refine⟨hv,hp.len,λj hj=>(hp.get j hj).resolve_left λhe=>?_⟩;have hm:=ay (d:=0) hj;rw[he]at hm;have:=rq.2 hm;rw[this]at h2;exact absurd h2.2 Px
def FP.pm{m:aj}{plan:List Int}(h:FP m plan):PM m plan:=⟨h.len,λj hj=>.inr (h.get j hj)⟩
def SB(s:SC)(n:Nat):Prop:=0<=s.1/\s.1<=1048576*n/\0<=s.2/\s.2<=1099511627776*n
def SB.zero:SB (0,0) 0:=by unfold SB;decide
def SB.mono{s:SC}{n k:Nat}(h:SB s n)(hk:n<=k):SB s k:=by unfold SB at *;omega
def aiI(c:Int):Prop:=0<=c/\c<=1048576\/c=1099511627776
def aiJ{c t:Int}(hc:0<=c/\c<=1048576)(ht:0<=t/\t<=1048576):0<=c*t/\c*t<=1099511627776 :=
 ⟨sF hc.1 ht.1,Int.le_trans (Int.mul_le_mul hc.2 ht.2 ht.1 GC) Px⟩
def SB.add{s:SC}{n:Nat}(h:SB s n){c t:Int}(hc:aiI c)(ht:0<=t/\t<=1048576):SB (Fl s c t) (n+1):=by
 unfold SB Fl at *;split
 ·dsimp only;omega
 ·have:=aiJ (hc.resolve_right (by assumption)) ht;dsimp only;omega
def vy:List Ld->Int->Int->Int
 |[],_,_=>0
 |x::r,i,o=>if x.cls=i/\x.opt=o then x.wt else vy r i o
def ug(l:List Ld):Nat->List Int->Int
 |_,[]=>0
 |i,o::r=>vy l i o+ug l (i+1) r
def ZU:∀ (plan:List Int) (i:Nat),ug [] i plan=0
 |[],_=>rfl
 |o::r,i=>by rw[ug,vy,ZU r];rfl
def ZV(x:Ld)(l:List Ld):∀ (plan:List Int) (i:Nat),ug (x::l) i plan=ug l i plan+if(i:Int)<=x.cls/\x.cls<i+plan.length/\plan.getD (x.cls-i).toNat 0=x.opt then x.wt-vy l x.cls x.opt else 0
 |[],i=>by rw[ug,ug,if_neg aar];rfl
 |o::r,i=>by
  rw[ug,ug,ZV x l r (i+1),vy];by_cases h:x.cls=i
  ·rw[if_neg (c:=((i+1:Nat):Int)<=x.cls/\_) GC];rw[show(x.cls-i).toNat=0 by omega,iF,eB];by_cases ho:x.opt=o
   ·rw[if_pos ⟨h,ho⟩,if_pos ⟨GC,GC,ho.symm⟩,h,ho];omega
   ·rw[if_neg (λh'=>ho h'.2),if_neg (λh'=>ho h'.2.2.symm)];omega
  ·rw[if_neg (c:=x.cls=i/\x.opt=o) (λh'=>h h'.1)];have e:((i+1:Nat):Int)<=x.cls/\x.cls<(i+1:Nat)+r.length/\r.getD (x.cls-(i+1:Nat)).toNat 0=x.opt↔(i:Int)<=x.cls/\x.cls<i+(o::r).length/\(o::r).getD (x.cls-i).toNat 0=x.opt:=by
    rw[eB];by_cases br:(i:Int)<x.cls
    ·rw[show(x.cls-i).toNat=(x.cls-(i+1:Nat)).toNat+1 by omega,fU];constructor
     ·rintro⟨a,b,c⟩;exact⟨GC,GC,c⟩
     ·rintro⟨a,b,c⟩;exact⟨GC,GC,c⟩
    ·constructor
     ·rintro⟨a,b,c⟩;omega
     ·rintro⟨a,b,c⟩;omega
   simp only[e];omega
def ZW:∀ (l:List Ld) (i o:Int),(∀ y∈l,¬ (y.cls=i/\y.opt=o))->vy l i o=0
 |[],_,_,_=>rfl
 |x::r,i,o,h=>by rw[vy,if_neg (h x GF),ZW r i o λy hy=>h y (by simp[hy])]
def zI{m:aj}:∀ {l:List Ld} {q:Ld},eI m (some q) l=true->∀ y∈l,q.cls<y.cls\/(q.cls=y.cls/\q.opt<y.opt)
 |[],_,_,y,hy=>by simp at hy
 |x::r,q,h,y,hy=>by
  rw[eI]at h;simp only[bw,decide_eq_true_eq]at h;have h1:=Iv.1 h.1.2;rcases cB.1 hy with rfl|hy
  ·exact h1
  ·have:=zI h.2 y hy;omega
def Zv{m:aj}{plan:List Int}(hp:plan.length=m.cls.length):∀ {l:List Ld} {q:Option Ld} (n:Int),eI m q l=true->ki plan l n=n+ug l 0 plan
 |[],_,n,_=>by rw[ki,ZU];omega
 |x::r,q,n,h=>by
  have hr:eI m (some x) r=true:=by
   rw[eI.eq_def]at h;simp only[bw]at h;exact h.2
  have hx:=(pV h x GF).1;obtain⟨a,b,c,d⟩:=fD.1 hx;rw[ki,Zv hp _ hr,ZV,ZW r x.cls x.opt (λy hy he=>by have:=zI hr y hy;omega)];rw[show(x.cls-((0:Nat):Int)).toNat=x.cls.toNat by simp];by_cases e:plan.getD x.cls.toNat 0=x.opt
  ·rw[if_pos e,if_pos ⟨GC,GC,e⟩];omega
  ·rw[if_neg e,if_neg (λh'=>e h'.2.2)];omega
def A9(m:aj):Nat->List Int->Bool
 |_,[]=>true
 |i,o::r=>eW m i o&&A9 m (i+1) r
def ZX{m:aj}:∀ (plan:List Int) (i:Nat),A9 m i plan=(qT m i plan&&!plan.contains (-1))
 |[],_=>rfl
 |o::r,i=>by
  rw[A9,qT,ZX r (i+1),List.contains_cons];by_cases h:o = -1
  ·subst h;have:eW m i (-1)=false:=by
    cases hb:eW m i (-1) with
    |false=>rfl
    |true=>have:=fD.1 hb;omega
   simp[this]
  ·have h2:((-1:Int)==o)=false:=by simpa using λe=>h e.symm
   rw[h2,decide_eq_false h,ma,ma];cases eW m i o<;>simp
def aiK(m:aj)(plan:List Int):pg m plan=if df m≠0 then df m else if plan.length≠m.cls.length then 17 else if A9 m 0 plan=false then 17 else 0:=by
 unfold pg qU;split
 ·rfl
 ·by_cases h:plan.length≠m.cls.length
  ·simp[h]
  ·rw[if_neg h,if_neg h,ZX];cases qT m 0 plan<;>cases plan.contains (-1)<;>rfl
structure Nd where
 cls:Int
 kids:List Int
 cV:List Mv
 a9:List Int
 cells:List (List (Int×Int))
 deriving Inhabited
def s8(l:List (Int×Int)):List AV:=[.tree 2 (rowsOf aL l)]
instance:Row s8 1:=⟨λ_=>rfl,λx v hv=>by
 simp only[s8,cB,kI,or_false]at hv;subst hv;exact .inr ⟨_,_,rfl⟩⟩
def aG(x:Nd):List AV:=[aaC x.cls,.tree 1 (ints x.kids),.tree 4 (rowsOf ca x.cV),.tree 1 (ints x.a9),.tree 1 (rowsOf s8 x.cells)]
instance:Row aG 5:=⟨λ_=>rfl,λx v hv=>by
 simp only[aG,cB,kI,or_false]at hv;rcases hv with rfl|rfl|rfl|rfl|rfl
 ·exact .inl ⟨_,rfl,rfl⟩
 all_goals exact .inr ⟨_,_,rfl⟩⟩
def aT(P:List Nd):List AV:=[.tree 5 (rowsOf aG P)]
structure PB(P:List Nd):Prop where
 qJ:P.length<9223372036854775808
 kids:∀ x∈P,x.kids.length<9223372036854775808
 cV:∀ x∈P,x.cV.length<9223372036854775808
 a9:∀ x∈P,x.a9.length<9223372036854775808
 cells:∀ x∈P,x.cells.length<9223372036854775808
 cell:∀ x∈P,∀ l∈x.cells,l.length<9223372036854775808
def m4(m:aj)(x:Nd):Bool :=
 if x.cls = -1 then decide (x.kids.length=0/\(x.a9.length=0->x.cells.length=0)/\(0<x.a9.length->x.cV.length=0))
 else decide (0<=x.cls/\x.cls<m.cls.length/\x.kids.length=(m.cls.getD x.cls.toNat default).length/\x.cV.length=0/\x.a9.length=0/\x.cells.length=0)
def mB(n i:Nat)(k:Int):Bool:=decide ((i:Int)<k/\k<n)
def lC(m:aj)(n i:Nat)(x:Nd):Bool:=m4 m x&&x.kids.all (mB n i)
def gz(P:List Nd):List Int:=P.flatMap (·.kids)
def kD(n:Nat)(l:List Int):List Int:=(aW n).map λ(j:Nat)=>(l.count (j:Int):Int)
def j5(m:aj)(P:List Nd):Bool :=
 decide (1<=P.length/\P.length<=20000)&&((aW P.length).all λi=>lC m P.length i (P.getD i default))&&!((kD P.length (gz P)).drop 1).any (λx=>x != 1)
def Ba(n:Nat)(l:List Int):(kD n l).length=n:=by simp[kD]
def IW{n:Nat}(l:List Int){j:Nat}(h:j<n):(kD n l).getD j 0=(l.count (j:Int):Int):=by
 unfold kD;rw[aA,cj,lg h];rfl
def aiL(n:Nat)(l:List Int)(k:Nat)(h:k<n):kD n (l++[(k:Int)])=(kD n l).set k ((kD n l).getD k 0+1):=by
 apply kq;intro j;rw[cA,IW l h];unfold kD;rw[cj,dX,List.length_range];by_cases hj:j<n
 ·rw[lg hj,fl,List.count_append];by_cases e:k=j
  ·subst e;rw[if_pos rfl,if_pos h];simp
  ·rw[if_neg e,cj,lg hj,fl];have:((k:Int)==(j:Int))=false:=by rw[beq_eq_false_iff_ne];omega
   simp[List.count_cons,this]
 ·rw[dW (by simpa using hj)];split
  ·omega
  ·rw[dW (by simpa using hj)];rfl
def aiM(n:Nat):kD n []=List.replicate n 0:=by
 apply kq;intro j;unfold kD;rw[cj,List.getElem?_replicate];by_cases hj:j<n
 ·rw[lg hj,if_pos hj];rfl
 ·rw[dW (by simpa using hj),if_neg hj];rfl
def Fm{m:aj}{x:Nd}(hm:VM m)(h:m4 m x=true):x.kids.length<=24:=by
 unfold m4 at h;split at h
 ·rw[decide_eq_true_eq]at h;omega
 ·rw[decide_eq_true_eq]at h;have:=hm.opt _ (ay (l:=m.cls) (i:=x.cls.toNat) (d:=default) GC);omega
def ZY{m:aj}{n:Nat}(hm:VM m):∀ (P:List Nd),(∀ x∈P,m4 m x=true)->(gz P).length<=24*P.length
 |[],_=>by simp[gz]
 |x::r,h=>by
  have h1:=Fm hm (h x GF);have h2:=ZY (n:=n) hm r λy hy=>h y (by simp[hy]);unfold gz at h2 ⊢;rw[List.flatMap_cons,bQ,eB];omega
def aiN{n:Nat}{l:List Int}{j:Nat}(h:j<n):0<=(kD n l).getD j 0/\(kD n l).getD j 0<=l.length:=by
 rw[IW l h];have:=List.count_le_length (a:=(j:Int)) (l:=l);omega
def Ni(P:List Nd)(x:Nd):gz (P++[x])=gz P++x.kids:=by unfold gz;rw[rA];simp
def ZZ{m:aj}{P:List Nd}{i:Nat}(hi:i<P.length)(h:lC m P.length i (P.getD i default)=false):j5 m P=false:=by
 unfold j5;have:((aW P.length).all λi=>lC m P.length i (P.getD i default))=false:=by
  rw[BJ];intro h2;rw[fT]at h2;rw[h2 i (mH.2 hi)]at h;cases h
 rw[this,PE,jR]
def Z0{m:aj}{P:List Nd}(h:¬(1<=P.length/\P.length<=20000)):j5 m P=false:=by
 unfold j5;rw[decide_eq_false h,jR,jR]
def IX{m:aj}{P:List Nd}(h:1<=P.length/\P.length<=20000)(ha:∀ i,i<P.length->lC m P.length i (P.getD i default)=true):j5 m P = !((kD P.length (gz P)).drop 1).any (λx=>x != 1):=by
 unfold j5;have:((aW P.length).all λi=>lC m P.length i (P.getD i default))=true:=by
  rw[fT];intro i hi;exact ha i (mH.1 hi)
 rw[this,decide_eq_true h,eQ,eQ]
def Z1:∀ (l:List Int) (i:Nat) (x:Int),i<l.length->kj (l.set i x)=kj l-l.getD i 0+x
 |[],i,x,h=>by simp at h
 |y::r,0,x,_=>by simp only[List.set_cons_zero,kj,iF];omega
 |y::r,i+1,x,h=>by
  have:=Z1 r i x (by simpa using h);simp only[List.set_cons_succ,kj,fU];omega
structure Rel(R:Int)(out:List Int)(s:SC)(n:Nat):Prop where
 ok:jt R out
 b0:0<=s.1
 c0:0<=s.2/\s.2<=1048576*n
 eq:s.1=0->kj out=s.2
 ff:0<s.1->1099511627776∈out
def Rel.mono{R:Int}{out:List Int}{s:SC}{n k:Nat}(h:Rel R out s n)(hk:n<=k):Rel R out s k :=
 ⟨h.ok,h.b0,by have:=h.c0;omega,h.eq,h.ff⟩
def Rel.add{R:Int}{out:List Int}{s:SC}{n k:Nat}(h:Rel R out s n){r d c t:Int}(hr:0<=r/\r<R)(ht:0<=t)(hc:(c=1099511627776/\d=if 0<t then 1099511627776 else 0)\/(c≠1099511627776/\d=c*t/\0<=d/\d<=1048576*k))(hb:n+k<1048576):
  Rel R (fI out r d) (Fl s c t) (n+k):=by
 have ez:b7 d:=by
  unfold b7;rcases hc with⟨_,h⟩|⟨_,_,h1,h2⟩
  ·rw[h];split<;>omega
  ·omega
 have hlen:=h.ok.1;have hi:r.toNat<out.length:=GC;have hg:=h.ok.get r.toNat;have bO:=ay (d:=(0:Int)) hi;have hs:=MO h.ok.2 _ bO;have iy:=Z1 out r.toNat (ee (out.getD r.toNat 0) d) hi;have oA:=h.c0;have n7:=h.b0;have Fo:ee (out.getD r.toNat 0) d∈fI out r d:=by
  unfold fI;have:(out.set r.toNat (ee (out.getD r.toNat 0) d)).getD r.toNat 0=ee (out.getD r.toNat 0) d:=by
   rw[aA,Kg hi];rfl
  have Nj:=ay (l:=out.set r.toNat (ee (out.getD r.toNat 0) d)) (i:=r.toNat) (d:=0) (by simpa using hi);rwa [this]at Nj
 have Z2:1099511627776∈out->1099511627776∈fI out r d:=by
  intro hm;obtain⟨j,hj,Z3⟩:=uz.1 hm;by_cases Z4:r.toNat=j
  ·subst Z4;have:out.getD r.toNat 0=1099511627776:=by rw[aA,bK hj];exact Z3
   rw[this]at Fo;have e:ee 1099511627776 d=1099511627776:=by unfold b7 at ez;unfold ee;omega
   rwa [e]at Fo
  ·have:(fI out r d).getD j 0=1099511627776:=by
    unfold fI;rw[aA,bR Z4,bK hj];exact Z3
   have Nj:=ay (l:=fI out r d) (i:=j) (d:=0) (by unfold fI;simpa using hj);rwa [this]at Nj
 unfold b7 at hg ez;rcases hc with⟨Nk,hd⟩|⟨Nk,hd,hd0,Z5⟩
 ·unfold Fl;rw[if_pos Nk];refine⟨h.ok.add (by unfold b7;exact ez),PA,PA,λhz=>?_,λhz=>?_⟩
  ·dsimp only at hz ⊢;have:d=0:=by rw[hd,if_neg GC]
   rw[<- h.eq GC];unfold fI;rw[iy];unfold ee;omega
  ·dsimp only at hz;by_cases htz:0<t
   ·have:ee (out.getD r.toNat 0) d=1099511627776:=by rw[hd,if_pos htz];unfold ee;omega
    rwa [this]at Fo
   ·exact Z2 (h.ff GC)
 ·unfold Fl;rw[if_neg Nk,<- hd];refine⟨h.ok.add (by unfold b7;exact ez),PA,PA,λhz=>?_,λhz=>?_⟩
  ·dsimp only at hz ⊢;have he:=h.eq hz;unfold fI;rw[iy];unfold ee;omega
  ·exact Z2 (h.ff hz)
def Z6{m:aj}:∀ (plan:List Int) (i:Nat),(∀ j,j<plan.length->plan.getD j 0 = -1\/eW m ((i+j:Nat):Int) (plan.getD j 0)=true)->qT m i plan=true
 |[],_,_=>rfl
 |o::r,i,h=>by
  rw[qT,bw,l9,decide_eq_true_eq];refine⟨by simpa using h 0 GF,Z6 r (i+1) λj hj=>?_⟩;have:=h (j+1) (by simpa using hj);rwa [fU,show i+(j+1)=i+1+j by omega]at this
def Z7{m:aj}{plan:List Int}(h:PM m plan):qU m plan=true:=by
 rw[qU,if_neg (by rw[h.len];simp)];exact Z6 plan 0 λj hj=>by rw[Nat.zero_add];exact h.get j hj
def H8{m:aj}{plan:List Int}(hm:VM m)(hp:PM m plan):ph m plan=(jX (jr m plan) 0,jr m plan,0):=by
 rw[ph,if_neg (by rw[eK.2 hm];simp),if_neg (by rw[Z7 hp];simp)];rfl
def L7{m:aj}{plan:List Int}(hm:VM m)(hp:FP m plan):pg m plan=0:=by
 unfold pg;rw[if_neg (by rw[eK.2 hm];simp),Z7 hp.pm,if_neg];simp only[gT,ma,PG];cases h:plan.contains (-1) with
 |false=>rfl
 |true =>
  obtain⟨j,hj,e⟩:=uz.1 (rq.1 h);have:=fD.1 (hp.get j hj);rw[aA,bK hj]at this;simp only[jB]at this;omega
def n8(m:aj)(a x b y:Int)(p:Pr):Bool:=decide (p.fst=a/\p.snd=b/\lV m p x y=1099511627776)
def py(m:aj)(a x b y:Int):Bool:=if b<a then m.ae.any (n8 m b y a x) else m.ae.any (n8 m a x b y)
def Z8{m:aj}{a x b y:Int}(h:a≠b):py m a x b y=py m b y a x:=by
 unfold py;by_cases h1:b<a
 ·rw[if_pos h1,if_neg GC]
 ·rw[if_neg h1,if_pos GC]
structure CI(m:aj)(plan out mv:List Int):Prop where
 fp:FP m out
 nd:mv.Nodup
 rg:∀ x∈mv,0<=x/\x<out.length
 un:∀ y:Nat,y<out.length->¬ (y:Int)∈mv->out.getD y 0=plan.getD y 0
def Nl:∀ {n:Nat} {l:List Int},l.Nodup->(∀ x∈l,0<=x/\x<n)->l.length<=n
 |0,l,h,hr=>by
  cases l with
  |nil=>simp
  |cons x r=>have:=hr x GF;omega
 |n+1,l,h,hr=>by
  by_cases hm:(n:Int)∈l
  ·have h1:=List.length_erase_of_mem hm;have h2:=Nl (n:=n) (h.erase (n:Int)) λx hx=>by
    have h3:=(List.Nodup.mem_erase_iff h).1 hx;have:=hr x h3.2;omega
   omega
  ·have:=Nl (n:=n) h λx hx=>by
    have:=hr x hx;have:x≠n:=λe=>hm (e▸hx);omega
   omega
def CI.len{m:aj}{plan out mv:List Int}(h:CI m plan out mv):mv.length<=out.length:=Nl h.nd h.rg
def CI.step{m:aj}{plan out mv:List Int}(h:CI m plan out mv){y:Nat}(hy:y<out.length)(hm:¬ (y:Int)∈mv){o:Int}(ho:eW m (y:Nat) o=true):CI m plan (out.set y o) (mv++[(y:Int)]):=by
 refine⟨?_,?_,?_,?_⟩
 ·refine⟨by rw[bF];exact h.fp.len,λj hj=>?_⟩;rw[bF]at hj;by_cases e:y=j
  ·subst e;rw[aA,Kg hj];exact ho
  ·rw[aA,bR e,<- aA];exact h.fp.get j hj
 ·rw[List.nodup_append];refine⟨h.nd,GF,λa ha b hb=>?_⟩;rw[fE]at hb;subst hb;intro e;subst e;exact hm ha
 ·intro x hx;rw[bF];rcases cH.1 hx with hx|hx
  ·exact h.rg x hx
  ·rw[fE.1 hx];omega
 ·intro j hj hn;rw[bF]at hj;rw[cH,not_or,fE]at hn;rw[aA,bR GC,<- aA];exact h.un j hj hn.1
def jA(c o:Int)(y:Int×Int):Bool:=decide (y=(c,o))
def sq(m:aj)(a b:Int×Int):Bool:=decide (a.1=b.1)||py m a.1 a.2 b.1 b.2
def sr(m:aj)(g:List Int)(l:List (Int×Int))(i:Nat):Bool:=g.contains (l.getD i default).1&&eW m (l.getD i default).1 (l.getD i default).2&&(l.take i).all (sq m (l.getD i default))
def p6(m:aj)(g:List Int)(l:List (Int×Int)):Bool:=(aW l.length).all (sr m g l)
def CR(m:aj)(g:List Int):Bool:=(aW g.length).all λi=>decide (0<=g.getD i 0/\g.getD i 0<m.cls.length/\(i=0\/g.getD (i-1) 0<g.getD i 0))
def s9(left:List (List Bool))(cells:List (List (Int×Int)))(c:Int):Bool :=
 (aW (left.getD c.toNat default).length).all λo=>!(left.getD c.toNat default).getD o false||cells.any λl=>l.any (jA c o)
def lW(m:aj)(x:Nd)(left:List (List Bool)):Bool :=
 CR m x.a9&&decide (x.cells.length<x.a9.length)&&x.cells.all (p6 m x.a9)&&x.a9.all (s9 left x.cells)
def wQ{n:Nat}{f:Nat->Bool}:(aW n).all f=true↔∀ i,i<n->f i=true:=by
 rw[fT];exact⟨λh i hi=>h i (mH.2 hi),λh i hi=>h i (mH.1 hi)⟩
def all_false{α:Type}{l:List α}{f:α->Bool}{x:α}(hx:x∈l)(h:f x=false):l.all f=false:=by
 rw[BJ];intro h2;rw[fT]at h2;rw[h2 x hx]at h;cases h
def CS{n:Nat}{f:Nat->Bool}{i:Nat}(hi:i<n)(h:f i=false):(aW n).all f=false:=all_false (mH.2 hi) h
def Nn{m:aj}{g:List Int}(h:CR m g=true):∀ c∈g,0<=c/\c<m.cls.length:=λc hc=>by
 obtain⟨i,hi,rfl⟩:=mJ hc;have:=wQ.1 h i hi;rw[decide_eq_true_eq,aA,bK hi]at this;exact⟨this.1,this.2.1⟩
def Z9{α:Type}(f:α->Bool):∀ (l:List α),(l.any λx=>!f x) = !l.all f
 |[]=>rfl
 |x::r=>by rw[List.any_cons,List.all_cons,Z9 f r,Bool.not_and]
def aaa{m:aj}{x:Nd}{left:List (List Bool)}(h:CR m x.a9=false):lW m x left=false:=by unfold lW;rw[h];rfl
def aab{m:aj}{x:Nd}{left:List (List Bool)}(h:¬x.cells.length<x.a9.length):lW m x left=false:=by unfold lW;rw[decide_eq_false h];simp
def aac{m:aj}{x:Nd}{left:List (List Bool)}(h:x.cells.all (p6 m x.a9)=false):lW m x left=false:=by unfold lW;rw[h];simp
def aad{m:aj}{x:Nd}{left:List (List Bool)}(h:x.a9.all (s9 left x.cells)=false):lW m x left=false:=by unfold lW;rw[h];simp
def aae{m:aj}{x:Nd}{left:List (List Bool)}(h1:CR m x.a9=true)(h2:x.cells.length<x.a9.length)(h3:x.cells.all (p6 m x.a9)=true)(h4:x.a9.all (s9 left x.cells)=true):lW m x left=true:=by unfold lW;rw[h1,decide_eq_true h2,h3,h4];rfl
def aiP(n:Int):ao Tryz.prog 169 [aaC n] [] (.lit (.bool (n != 1))) []:=by
 refine ao.aD 5 0 [.tmp 2] Tryz.func169 ?_;refine Vb X0 ?_;exact aE rfl rfl
def aiQ(m:aj)(P:List Nd)(hm:VM m)(hP:PB P):ao Tryz.prog 125 [.agg (aq m),.agg (aT P)] [] (.lit (.bool (j5 m P))) []:=by
 have rV:=hP.qJ;have nu:=hm.cls;generalize ak:j5 m P=res;refine ao.aD 136 0 [.tmp 4] Tryz.func125 ?_;by_cases bx:1<=P.length/\P.length<=20000;rotate_left
 ·rw[Z0 bx]at ak;subst ak;((repeat'(first|refine Vb @aT.eq_1 ?_|(refine V2 @aT.eq_1 ?_ ?_<;>try with_reducible intro hb)|(refine Xi ?_ ?_<;>try intro ht)|exact Xx|fail)))
  all_goals exact aE rfl rfl
 obtain⟨jS,jC⟩:=bx;((repeat'(first|refine Vb @aT.eq_1 ?_|(refine V2 @aT.eq_1 ?_ ?_<;>try with_reducible intro hb)|(refine Xi ?_ ?_<;>try intro ht)|exact Xx|fail)))
 refine aM (λi:Nat=>(⟨aw [(2,.ptr 0 0 0),(3,.ptr 1 0 0),(5,.ref 2 1 0 P.length),(25,.tree 5 (rowsOf aG P)),(26,aaC P.length),(27,aaC i)],[.var (aq m),.var (aT P),.arr 1 (ints (kD P.length (gz (P.take i))))]⟩:St))
  (λi=>i<=P.length/\∀ a,a<i->lC m P.length a (P.getD a default)=true) (λi=>P.length-i) 0 ⟨aI _,λa ha=>absurd ha (m8 _)⟩ (by rw[kK];show aF _ _ ⟨_,[_,_,.arr 1 (ints (kD P.length []))]⟩;rw[aiM];exact Xv (X2 @aT.eq_1 @BS)) ?_
 rintro i⟨hi,dF⟩Ql an ar;by_cases hi':i<P.length
 ·have bO:=ay (l:=P) (i:=i) (d:=default) hi';have b1:=hP.kids _ bO;have b2:=hP.cV _ bO;have b3:=hP.a9 _ bO;have b4:=hP.cells _ bO;have cN:=eG hi';have IY:∀ l,gz (P.take (i+1))=gz (P.take i)++l↔l=(P.getD i default).kids:=λl=>by rw[cN,Ni];exact⟨λh=>(List.append_cancel_left h).symm,λh=>by rw[h]⟩
  have gQ:=ZZ (m:=m) hi';have hlen:=ZY (n:=0) hm (P.take i) λy hy=>by
   obtain⟨a,ha,rfl⟩:=mJ hy;rw[eN]at ha;have:=dF a GC;unfold lC at this;rw[bw,aA,bK GC]at this;simpa using this.1
  rw[eN]at hlen;generalize aS:P.getD i default=x at *;obtain⟨c,kids,cV,a9,cells⟩:=x;dsimp only at b1 b2 b3 b4 IY;have IY:=(IY _).2 rfl;have bX:¬(m4 m ⟨c,kids,cV,a9,cells⟩=true)->res=false:=λh=>by
   rw[<- ak];refine gQ ?_;unfold lC;rw[BJ.2 h,jR]
  have pW:∀ j,j<kids.length->¬(mB P.length i (kids.getD j 0)=true)->res=false:=λj hj h=>by
   rw[<- ak];refine gQ ?_;unfold lC;have:kids.all (mB P.length i)=false:=by
    rw[BJ];intro h2;rw[fT]at h2;exact h (h2 _ (ay hj))
   dsimp only;rw[this,PE]
  clear gQ;generalize oS:m.cls.getD c.toNat default=wl at *;have xV:0<=c/\c<m.cls.length->wl.length<=24:=λh=>by rw[<- oS];exact hm.opt _ (ay GC)
  by_cases gA:m4 m ⟨c,kids,cV,a9,cells⟩=true;rotate_left
  ·have hr:=bX gA;unfold m4 at gA;dsimp only at gA;rw[oS]at gA;by_cases e9:c = -1
   ·rw[if_pos e9,decide_eq_true_eq]at gA;((repeat'(first|refine Va (X3 @aT.eq_1 @aS @aG.eq_1) ?_|(refine V2 (X3 @aT.eq_1 @aS @aG.eq_1) ?_ ?_<;>try with_reducible intro hb)|(refine Xi ?_ ?_<;>try intro ht)|exact Xx|fail)))
    all_goals
     repeat(refine Xu ?_)
     ((repeat'(first|refine Vb X0 ?_|fail)))
     exact aE rfl (by rw[hr])
   ·rw[if_neg e9,decide_eq_true_eq]at gA;by_cases ax:0<=c/\c<m.cls.length
    ·have xV:=xV ax;((repeat'(first|refine Va (X5 @aT.eq_1 @aS @aG.eq_1 @oS @bu.eq_1) ?_|(refine V2 (X5 @aT.eq_1 @aS @aG.eq_1 @oS @bu.eq_1) ?_ ?_<;>try with_reducible intro hb)|(refine Xi ?_ ?_<;>try intro ht)|exact Xx|fail)))
     all_goals
      repeat(refine Xu ?_)
      ((repeat'(first|refine Vb X0 ?_|fail)))
      exact aE rfl (by rw[hr])
    ·((repeat'(first|refine Va (X3 @aT.eq_1 @aS @aG.eq_1) ?_|(refine V2 (X3 @aT.eq_1 @aS @aG.eq_1) ?_ ?_<;>try with_reducible intro hb)|(refine Xi ?_ ?_<;>try intro ht)|exact Xx|fail)))
     all_goals
      repeat(refine Xu ?_)
      ((repeat'(first|refine Vb X0 ?_|fail)))
      exact aE rfl (by rw[hr])
  have Fp:=Fm hm gA;have wR:(∀ j,j<kids.length->mB P.length i (kids.getD j 0)=true)->lC m P.length i ⟨c,kids,cV,a9,cells⟩=true:=λh=>by
   unfold lC;rw[gA,eQ,fT];intro k hk;obtain⟨j,hj,rfl⟩:=mJ hk;have:=h j hj;rwa [aA,bK hj]at this
  dsimp only at Fp;repeat'(first|((fail_if_success (first|refine eT 7 ?_|refine eU 7 ?_));refine Xr (X3 @aT.eq_1 @aS @aG.eq_1) ?_;intro K hK)|(refine hK _ ?_;clear hK K)|(refine Xi ?_ ?_<;>try intro ht)|refine Xy ?_|refine Xd ?_ ?_|exact Xx|fail)
  (refine ahy ?_);intro Q0 ef pO
  refine yV ⟨aw [(2,.ptr 0 0 0),(3,.ptr 1 0 0),(5,.ref 2 1 0 P.length),(6,aaC i),(7,.ptr 3 0 0),(25,.tree 5 (rowsOf aG P)),(26,aaC P.length),(27,aaC i)],[.var (aq m),.var (aT P),.arr 1 (ints (kD P.length (gz (P.take i)))),.var (aG ⟨c,kids,cV,a9,cells⟩)]⟩ ef ?_ (λkey=>?_);rotate_left
  ·(try clear ef)
   unfold m4 at gA;dsimp only at gA;rw[oS]at gA;by_cases e9:c = -1
   ·rw[if_pos e9,decide_eq_true_eq]at gA;((repeat'(first|refine Va (X3 @aT.eq_1 @aS @aG.eq_1) ?_|(refine V2 (X3 @aT.eq_1 @aS @aG.eq_1) ?_ ?_<;>try with_reducible intro hb)|(refine Xi ?_ ?_<;>try intro ht)|exact Xx|fail)))
    all_goals
     refine key _ ?_;exact Xv (X2 @aT.eq_1 @aG.eq_1)
   ·rw[if_neg e9,decide_eq_true_eq]at gA;have xV:=xV ⟨gA.1,gA.2.1⟩;((repeat'(first|refine Va (X5 @aT.eq_1 @aS @aG.eq_1 @oS @bu.eq_1) ?_|(refine V2 (X5 @aT.eq_1 @aS @aG.eq_1 @oS @bu.eq_1) ?_ ?_<;>try with_reducible intro hb)|(refine Xi ?_ ?_<;>try intro ht)|exact Xx|fail)))
    all_goals
     refine key _ ?_;exact Xv (X2 @aT.eq_1 @aG.eq_1)
  (try clear ef;try clear pO)
  refine Va (X2 @aT.eq_1 @aG.eq_1) ?_;refine aM (λj:Nat=>(⟨aw [(2,.ptr 0 0 0),(3,.ptr 1 0 0),(5,.ref 2 1 0 P.length),(6,aaC i),(25,.tree 5 (rowsOf aG P)),(26,aaC P.length),(27,aaC i),(108,.tree 1 (ints kids)),(109,aaC kids.length),(110,aaC j)],[.var (aq m),.var (aT P),.arr 1 (ints (kD P.length (gz (P.take i)++kids.take j)))]⟩:St))
   (λj=>j<=kids.length/\∀ a,a<j->mB P.length i (kids.getD a 0)=true) (λj=>kids.length-j) 0 ⟨aI _,λa ha=>absurd ha (m8 _)⟩ (by rw[kK,List.append_nil];exact Xs false [0,1,2] @aT.eq_1) ?_
  rintro j⟨hj,aaf⟩cJ ba bd;by_cases db:j<kids.length
  ·have im:=eG db;have Fq:kids.getD j default=kids.getD j 0:=rfl;have aiR:=pW j db;rw[Fq]at im;have rN:(gz (P.take i)++kids.take j).length<=24*P.length+24:=by rw[bQ,eN];omega
   generalize iO:kids.getD j 0=k at *;by_cases Fs:mB P.length i k=true;rotate_left
   ·have hr:=aiR Fs;unfold mB at Fs;rw[decide_eq_true_eq]at Fs;((repeat'(first|refine Va (X2 @aT.eq_1 @iO) ?_|(refine V2 (X2 @aT.eq_1 @iO) ?_ ?_<;>try with_reducible intro hb)|(refine Xi ?_ ?_<;>try intro ht)|exact Xx|fail)))
    all_goals
     repeat(refine Xu ?_)
     ((repeat'(first|refine Vb X0 ?_|fail)))
     exact aE rfl (by rw[hr])
   have aag:=Fs;unfold mB at aag;rw[decide_eq_true_eq]at aag;have u5:=aiN (n:=P.length) (l:=gz (P.take i)++kids.take j) (j:=k.toNat) GC;have cu:=Ba P.length (gz (P.take i)++kids.take j);have mi:=aiL P.length (gz (P.take i)++kids.take j) k.toNat GC;rw[Int.toNat_of_nonneg GC,List.append_assoc,<- im]at mi;((repeat'(first|refine Va (X3 @aT.eq_1 @iO @cu) ?_|(refine V2 (X3 @aT.eq_1 @iO @cu) ?_ ?_<;>try with_reducible intro hb)|(refine Xi ?_ ?_<;>try intro ht)|exact Xx|fail)))
   refine ba _ (j+1) ⟨GC,λa ha=>?_⟩ GC (by rw[mi];exact Xv @aT.eq_1);by_cases e:a=j
   ·subst e;rw[iO];exact Fs
   ·exact aaf a GC
  ·obtain rfl:j=kids.length:=GC;rw[rB,<- IY];((repeat'(first|refine Va X0 ?_|(refine V2 X0 ?_ ?_<;>try with_reducible intro hb)|(refine Xi ?_ ?_<;>try intro ht)|exact Xx|fail)))
   refine bd _ _ rfl ?_;clear ba bd cJ;repeat(refine Xu ?_)
   refine Va X0 ?_;refine an _ (i+1) ⟨GC,λa ha=>?_⟩ GC (Xv @aT.eq_1);by_cases e:a=i
   ·subst e;rw[aS];exact wR aaf
   ·exact dF a GC
 ·obtain rfl:i=P.length:=GC;rw[rB];have lU:=IX (m:=m) ⟨jS,jC⟩ dF;rw[ak]at lU;have yi:=Y4 ((kD P.length (gz P)).drop 1) 169 [] [] (λx=>x != 1) (by rw[xi,Ba];omega) (λx _=>aiP x);have cu:=Ba P.length (gz P);have p7:(ints (kD P.length (gz P))).drop 1=ints ((kD P.length (gz P)).drop 1):=by unfold ints;rw[List.map_drop]
  have AX:((kD P.length (gz P)).drop 1).length=P.length-1:=by rw[xi,Ba]
  ((repeat'(first|refine Va X0 ?_|(refine Xi ?_ ?_<;>try intro ht)|exact Xx|fail)))
  refine ar _ _ rfl ?_;clear an ar Ql;repeat(refine Xu ?_)
  generalize kD P.length (gz P)=pc at *;refine bY (σ':=⟨aw [(5,.tree 1 (ints pc))],[]⟩) (by rw[<- cu];exact Xs true [] X0) ?_;((repeat'(first|refine Vd (X4 @cu @p7 @AX @Option.map_none.{0,0}) yi ?_|refine VD ?_ ?_|fail)))
  ·intro _;trivial
  exact aE rfl (by rw[lU])
def aiS(l:List (List (Int×Int)))(g:FuncId)(bj:List AV)(aa:List Ob)(p:(List (Int×Int))->Bool)(hl:l.length<9223372036854775808)(hg:∀ x∈l,ao Tryz.prog g ([.tree 2 (rowsOf aL x)]++bj) aa (.lit (.bool (p x))) aa):
  ao Tryz.prog 171 [.tree 1 (rowsOf s8 l),.fn g bj] aa (aaC (dG p 0 l)) aa:=by
 generalize ak:dG p 0 l=res;refine ao.aD 19 aa.length [.tmp 4] Tryz.func171 ?_;refine Vb (X3 @b8 @gf @s8.eq_1) ?_;refine aM (λk:Nat=>(⟨aw [(0,.tree 1 (rowsOf s8 l)),(1,.fn g bj),(7,aaC l.length),(8,aaC k)],aa⟩:St)) (λk=>k<=l.length/\dG p k (l.drop k)=res) (λk=>l.length-k) 0 ⟨aI _,ak⟩ (Xv X0) ?_;rintro k⟨hk,hr⟩Ql an ar;by_cases aK:k<l.length
 ·have hx:=hg _ (ay (d:=default) aK);have hd:=cP l k default aK;generalize aS:l.getD k default=x at *;rw[hd,dG]at hr;simp only[dS,dY,s8]at hx;((repeat'(first|refine Vb (X4 @b8 @gf @s8.eq_1 @aS) ?_|(refine Xi ?_ ?_<;>try intro ht)|exact Xx|fail))<;>try with_reducible intro K hK)
  refine ig hx (aN _) ?_;((try revert hK K);(repeat'(first|refine Vb (X3 @b8 @gf @s8.eq_1) ?_|(refine Xi ?_ ?_<;>try intro ht)|fail)))
  ·rw[if_pos (by assumption)]at hr;rw[<- hr];exact eu rfl (aN _) rfl
  ·rw[if_neg (by simp_all)]at hr;exact an _ (k+1) ⟨GC,hr⟩ GC (Xv X0)
 ·((repeat'(first|refine Vb (X3 @b8 @gf @s8.eq_1) ?_|(refine Xi ?_ ?_<;>try intro ht)|exact Xx|fail)))
  rw[cR GC,dG]at hr;rw[<- hr];exact eu rfl (aN _) rfl
def aah(l:List (List (Int×Int)))(g:FuncId)(bj:List AV)(aa:List Ob)(p:(List (Int×Int))->Bool)(hl:l.length<9223372036854775808)(hg:∀ x∈l,ao Tryz.prog g ([.tree 2 (rowsOf aL x)]++bj) aa (.lit (.bool (p x))) aa):
  ao Tryz.prog 127 [.tree 1 (rowsOf s8 l),.fn g bj] aa (.lit (.bool (l.any p))) aa:=by
 rw[<- zG p l 0];refine ao.aD 9 aa.length [.tmp 4] Tryz.func127 ?_;((refine Vb (X3 @b8 @gf @s8.eq_1) ?_)<;>try with_reducible intro K hK)
 refine ig (aiS l g bj aa p hl hg) (aN _) ?_;((try revert hK K);(refine Vb (X3 @b8 @gf @s8.eq_1) ?_))
 exact eu rfl (aN _) rfl
def aiT(l:List Pr)(g:FuncId)(bj:List AV)(aa:List Ob)(p:Pr->Bool)(hl:l.length<9223372036854775808)(hg:∀ x∈l,ao Tryz.prog g ([.agg (aP x)]++bj) aa (.lit (.bool (p x))) aa):
  ao Tryz.prog 206 [.tree 4 (rowsOf aP l),.fn g bj] aa (aaC (dG p 0 l)) aa:=by
 generalize ak:dG p 0 l=res;refine ao.aD 19 aa.length [.tmp 4] Tryz.func206 ?_;refine Vb (X3 @b8 @gf @aP.eq_1) ?_;refine aM (λk:Nat=>(⟨aw [(0,.tree 4 (rowsOf aP l)),(1,.fn g bj),(7,aaC l.length),(8,aaC k)],aa⟩:St)) (λk=>k<=l.length/\dG p k (l.drop k)=res) (λk=>l.length-k) 0 ⟨aI _,ak⟩ (Xv X0) ?_;rintro k⟨hk,hr⟩Ql an ar;by_cases aK:k<l.length
 ·have hx:=hg _ (ay (d:=default) aK);have hd:=cP l k default aK;generalize aS:l.getD k default=x at *;rw[hd,dG]at hr;simp only[dS,dY,aP]at hx;((repeat'(first|refine Vb (X4 @b8 @gf @aP.eq_1 @aS) ?_|(refine Xi ?_ ?_<;>try intro ht)|exact Xx|fail))<;>try with_reducible intro K hK)
  refine ig hx (aN _) ?_;((try revert hK K);(repeat'(first|refine Vb (X3 @b8 @gf @aP.eq_1) ?_|(refine Xi ?_ ?_<;>try intro ht)|fail)))
  ·rw[if_pos (by assumption)]at hr;rw[<- hr];exact eu rfl (aN _) rfl
  ·rw[if_neg (by simp_all)]at hr;exact an _ (k+1) ⟨GC,hr⟩ GC (Xv X0)
 ·((repeat'(first|refine Vb (X3 @b8 @gf @aP.eq_1) ?_|(refine Xi ?_ ?_<;>try intro ht)|exact Xx|fail)))
  rw[cR GC,dG]at hr;rw[<- hr];exact eu rfl (aN _) rfl
def aai(l:List Pr)(g:FuncId)(bj:List AV)(aa:List Ob)(p:Pr->Bool)(hl:l.length<9223372036854775808)(hg:∀ x∈l,ao Tryz.prog g ([.agg (aP x)]++bj) aa (.lit (.bool (p x))) aa):
  ao Tryz.prog 196 [.tree 4 (rowsOf aP l),.fn g bj] aa (.lit (.bool (l.any p))) aa:=by
 rw[<- zG p l 0];refine ao.aD 9 aa.length [.tmp 4] Tryz.func196 ?_;((refine Vb (X3 @b8 @gf @aP.eq_1) ?_)<;>try with_reducible intro K hK)
 refine ig (aiT l g bj aa p hl hg) (aN _) ?_;((try revert hK K);(refine Vb (X3 @b8 @gf @aP.eq_1) ?_))
 exact eu rfl (aN _) rfl
def yj(v:Int):List Int->Int->Int
 |[],_=>-1
 |x::r,k=>if v=x then k else yj v r (k+1)
def aaj(v:Int):∀ (l:List Int) (k:Int),0<=k->(0<=yj v l k↔v∈l)
 |[],k,hk=>by simp[yj]
 |x::r,k,hk=>by
  rw[yj];split
  ·rename_i h;simp[h,hk]
  ·rename_i h;rw[aaj v r (k+1) GC];simp[h]
def aiU(l:List Int)(v:Int)(hl:l.length<9223372036854775808):ao Tryz.prog 165 [.tree 1 (ints l),aaC v] [] (aaC (yj v l 0)) []:=by
 generalize ak:yj v l 0=res;refine ao.aD 19 0 [.tmp 4] Tryz.func165 ?_;repeat'(first|(refine Xr X0 ?_;intro K hK)|(refine hK _ ?_;clear hK K)|refine Xz ?_|fail)
 refine aM (λk:Nat=>(⟨aw [(0,.tree 1 (ints l)),(1,aaC v),(7,aaC l.length),(8,aaC k)],[]⟩:St)) (λk=>k<=l.length/\yj v (l.drop k) k=res) (λk=>l.length-k) 0 ⟨aI _,ak⟩ (Xv X0) ?_;rintro k⟨hk,hr⟩Ql an ar;by_cases aK:k<l.length
 ·have hd:=cP l k 0 aK;generalize aR:l.getD k 0=x at *;rw[hd,yj]at hr;((repeat'(first|refine Va @aR ?_|(refine Xi ?_ ?_<;>try intro ht)|exact Xx|fail)))
  ·rw[if_pos (by assumption)]at hr;repeat(refine Xu ?_)
   refine Vb X0 ?_;rw[<- hr];exact G8 rfl
  ·rw[if_neg (by assumption)]at hr;exact an _ (k+1) ⟨GC,hr⟩ GC (Xv X0)
 ·((repeat'(first|refine Va X0 ?_|(refine Xi ?_ ?_<;>try intro ht)|exact Xx|fail)))
  rw[cR GC,yj]at hr;refine ar _ _ rfl ?_;clear an ar Ql;repeat(refine Xu ?_)
  refine Vb X0 ?_;rw[<- hr];exact G8 rfl
def Np(l:List Int)(v:Int)(hl:l.length<9223372036854775808):ao Tryz.prog 122 [.tree 1 (ints l),aaC v] [] (.lit (.bool (l.contains v))) []:=by
 have h:=aaj v l 0 GC;refine ao.aD 9 0 [.tmp 4] Tryz.func122 ?_;repeat'(first|(refine Xq X0 ?_;intro K hK)|refine Xo X0 ?_|refine Xc (aiU l v hl) ?_|(refine hK _ ?_;clear hK K)|refine Xz ?_|(refine Xe ?_;first|refine aE rfl ?_|refine Xl ?_ ?_)|fail)
 rw[<- rq]at h;cases hb:l.contains v<;>rw[hb]at h
 ·rw[decide_eq_false (by simpa using h)]
 ·rw[decide_eq_true (by simpa using h)]
def aiV(m:aj)(plan:List Int)(hb:MB m)(cu:plan.length<9223372036854775808):ao Tryz.prog 71 [.agg (aq m),.tree 1 (ints plan)] [] (aaC (pg m plan)) []:=by
 generalize ak:pg m plan=res;unfold pg at ak;refine ao.aD 19 0 [.tmp 4] Tryz.func71 ?_;repeat'(first|(refine Xq X0 ?_;intro K hK)|refine Xo X0 ?_|refine Xc (tV m hb) ?_|refine Xc (Y5 m plan cu) ?_|refine Xc (Np plan (-1) cu) ?_|(refine hK _ ?_;clear hK K)|(refine Xg X0 ?_ ?_<;>try intro hb)|(refine Xi ?_ ?_<;>try intro ht)|refine Xz ?_|(refine Xe ?_;first|refine aE rfl ?_|refine Xl ?_ ?_)|exact Xx|fail)
 all_goals(rw[<- ak];first|(rw[if_pos (by assumption)];done)|(rw[if_neg GC,if_pos (by simp only[*,gT,Bool.not_false,Bool.true_or,Bool.or_true])];done)|(rw[if_neg GC,if_neg (by simp only[*,gT,Bool.or_false,Bool.false_eq_true,not_false_eq_true])];done))
end T

