import Derived.Test.YtdipcmigdbnheaaGreatX13
import Derived.Test.YtdipcmigdbnheaaGreatX09
import Derived.Test.YtdipcmigdbnheaaGreatX11
set_option linter.unusedVariables false
set_option linter.unusedSimpArgs false
set_option linter.unnecessarySimpa false
set_option linter.unusedSectionVars false
set_option maxHeartbeats 64000000
set_option maxRecDepth 20000
open List renaming range→aN,getD_eq_getElem?_getD→aA,getElem?_eq_none→eS,mem_or_eq_of_mem_set→pY,getElem?_set→b6,getElem?_set_ne→bm,length_set→bI,mem_map→ca,getElem?_map→cm,getElem?_eq_getElem→bX,length_cons→dH,length_append→bV,length_map→ey,getD_cons_zero→gb,getD_cons_succ→eJ,mem_cons→cu,not_mem_nil→ly,getElem?_range→oB,ext_getElem?→nt,all_eq_true→gU,mem_range→lP,getElem?_set_self→Fu,mem_iff_getElem→sh,contains_iff_mem→tB,mem_singleton→eM,mem_append→cr
open Nat renaming lt_or_ge→eF,zero_le→aM
open Option renaming getD_some→mP,map_some→gf
open Bool renaming and_eq_true→bk,not_eq_true'→kx,false_and→mq,true_and→ic,not_true→lR
open Int renaming mul_nonneg→p6
open Go Go.Am
open Go Go.Am Go.Proofs
open Nat (reduceEqDiff reduceAdd reduceLeDiff reduceMul)
open Int (reduceNeg reduceLE reduceToNat)
namespace T
def S0 (m:aj):List (List Nm):=m.cls.map fun l=>hJ (jL l)
def T0 (m:aj):List (List Nm):=m.ae.map fun p=>hJ p.az
def uw (r:List Nm) (i:Nat) (a:Int):List Nm:=r.set i ((r.getD i default).1+a,(r.getD i default).2)
def rR (f:Nat→Nat) (a:Int):Nat→List Nm→List Nm
  | 0,t=>t
  | k+1,t=>uw (rR f a k t) (f k) (-a)
abbrev Lg:=List (List Nm) × List (List Nm)
def A8 (m:aj) (x:Mv):(Nat→Nat) × Nat :=
  if x.side=0 then (fun k=>(x.opt * (m.cls.getD (m.ae.getD x.pair.toNat default).snd.toNat default).length+k).toNat,(m.cls.getD (m.ae.getD x.pair.toNat default).snd.toNat default).length)
  else (fun k=>((k:Int) * (m.cls.getD (m.ae.getD x.pair.toNat default).snd.toNat default).length+x.opt).toNat,(m.cls.getD (m.ae.getD x.pair.toNat default).fst.toNat default).length)
def og (m:aj) (x:Mv) (g:Lg):Lg :=
  (g.1.set (oZ m x).toNat (uw (g.1.getD (oZ m x).toNat default) x.opt.toNat x.ux),g.2.set x.pair.toNat (rR (A8 m x).1 x.ux (A8 m x).2 (g.2.getD x.pair.toNat default)))
def mK (m:aj) (l:List Mv) (g:Lg):Lg:=l.foldl (fun g x=>og m x g) g
def uu (a b:List Bool):List Bool:=a.flatMap fun x=>b.map fun y=>x && y
def PC (left:List (List Bool)) (S:List (List Nm)) (n:Nat):List (Int × Bool):=(aN n).map fun i=>fx (S.getD i default) (left.getD i default) (0,false)
def kP (m:aj) (left:List (List Bool)) (i:Nat):List Bool:=uu (left.getD (m.ae.getD i default).fst.toNat default) (left.getD (m.ae.getD i default).snd.toNat default)
def PP (m:aj) (left:List (List Bool)) (T:List (List Nm)) (n:Nat):List (Int × Bool):=(aN n).map fun i=>fx (T.getD i default) (kP m left i) (0,false)
def PK (m:aj) (left:List (List Bool)) (n:Nat):List (Int × Bool):=(aN n).map fun i=>(oa left (m.au.getD i default),!(decide ((m.au.getD i default).bL=1099511627776) && decide (0<oa left (m.au.getD i default))))
def cN (l:List (Int × Bool)) (z:Int × Bool):Int × Bool:=l.foldl (fun z p=>(z.1+p.1,z.2 || !p.2)) z
def nh (m:aj) (left:List (List Bool)) (g:Lg):Int :=
  if (cN (PK m left m.au.length) (cN (PP m left g.2 m.ae.length) (cN (PC left g.1 m.cls.length) (0,false)))).2=true then 1099511627776
  else min (cN (PK m left m.au.length) (cN (PP m left g.2 m.ae.length) (cN (PC left g.1 m.cls.length) (0,false)))).1 1099511627776
def kR (m:aj) (left:List (List Bool)) (l:List Mv):Int × Int :=
  if 2000<l.length then (0,2) else if l.all (o6 m)=false then (0,3) else (nh m left (mK m l (S0 m,T0 m)),0)
theorem HM (l:List (Int × Bool)) (p z:Int × Bool):cN (l++[p]) z=((cN l z).1+p.1,(cN l z).2 || !p.2):=by unfold cN;rw[List.foldl_append];rfl
theorem D9 {β:Type} (f:Nat→β) (n:Nat):(aN (n+1)).map f=(aN n).map f++[f n]:=by rw[List.range_succ,List.map_append];rfl
def NB (B:Int) (r:List Nm):Prop:=∀ p∈r,-B≤p.1∧p.1≤B
theorem NB.get {B:Int} {r:List Nm} (h:NB B r) (hB:0≤B) (i:Nat) : -B≤(r.getD i default).1∧(r.getD i default).1≤B:=by
  rcases eF i r.length with hi | hi
  · exact h _ (aC hi)
  · rw[aA,eS hi]
    show -B≤(0:Int)∧(0:Int)≤B
    omega
theorem NB.mono {B C:Int} {r:List Nm} (h:NB B r) (hc:B≤C):NB C r:=fun p hp=>by have:=h p hp;omega
theorem NB.add {B:Int} {r:List Nm} (h:NB B r) (hB:0≤B) (i:Nat) {a:Int} (ha : -268435456≤a∧a≤268435456):NB (B+268435456) (uw r i a):=fun p hp=>by
  rcases pY hp with h' | h'
  · have:=h p h';omega
  · have:=h.get hB i
    rw[h'];dsimp only;omega
theorem SX (r:List Nm) (i:Nat) (a:Int):(uw r i a).length=r.length:=by simp[uw]
theorem HJ (f:Nat→Nat) (a:Int):∀ (k:Nat) (t:List Nm),(rR f a k t).length=t.length
  | 0,t=>rfl
  | k+1,t=>by rw[rR,SX,HJ f a k t]
theorem NB.sub {B:Int} {r:List Nm} (h:NB B r) (hB:0≤B) (f:Nat→Nat) {a:Int} (ha : -268435456≤a∧a≤268435456):∀ k:Nat,NB (B+268435456 * k) (rR f a k r)
  | 0=>by simpa [rR] using h
  | k+1=>by
    rw[rR]
    have:=(NB.sub h hB f ha k).add (by omega) (f k) (a:=-a) (by omega)
    exact this.mono (by omega)
structure LG (m:aj) (B:Int) (g:Lg):Prop where
  s:g.1.length=m.cls.length
  t:g.2.length=m.ae.length
  sl:∀ i,i<m.cls.length→(g.1.getD i default).length=(m.cls.getD i default).length
  tl:∀ i,i<m.ae.length→(g.2.getD i default).length=(m.ae.getD i default).az.length
  sb:∀ r∈g.1,NB B r
  tb:∀ r∈g.2,NB B r
theorem SY {g:List (List Nm)} {i j:Nat} {r:List Nm} (h:r.length=(g.getD i default).length):((g.set i r).getD j default).length=(g.getD j default).length:=by
  by_cases e:i=j
  · subst e
    rcases eF i g.length with hi | hi
    · simp only[aA,b6,hi,if_true,mP];rw[h,aA]
    · rw[List.set_eq_of_length_le hi]
  · simp only[aA,bm e]
theorem Ee {B:Int} {g:List (List Nm)} (h:∀ r∈g,NB B r) (i:Nat):NB B (g.getD i default):=by
  rcases eF i g.length with hi | hi
  · exact h _ (aC hi)
  · rw[aA,eS hi];intro p hp;cases hp
theorem abP {m:aj} (hm:VM m) (x:Mv):(A8 m x).2≤24:=by
  have:∀ i,(m.cls.getD i default).length≤24:=fun i=>by
    rcases eF i m.cls.length with hi | hi
    · exact hm.opt _ (aC hi)
    · rw[aA,eS hi];exact aM _
  unfold A8
  split<;>exact this _
theorem Sm {m:aj} (hm:VM m) {B:Int} (hB:0≤B) {g:Lg} (h:LG m B g) {x:Mv} (hx:o6 m x=true):LG m (B+268435456 * 25) (og m x g):=by
  unfold o6 at hx
  rw[bk,decide_eq_true_eq] at hx
  have ha:=hx.1.2.2.2.2
  have hk:=abP hm x
  refine⟨by rw[og,bI];exact h.s,by rw[og,bI];exact h.t,fun i hi=>?_,fun i hi=>?_,fun r hr=>?_,fun r hr=>?_⟩
  · rw[og];dsimp only
    rw[SY (by rw[SX])];exact h.sl i hi
  · rw[og];dsimp only
    rw[SY (by rw[HJ])];exact h.tl i hi
  · rcases pY hr with h' | h'
    · exact (h.sb r h').mono (by omega)
    · rw[h'];exact ((Ee h.sb _).add hB _ ha).mono (by omega)
  · rcases pY hr with h' | h'
    · exact (h.tb r h').mono (by omega)
    · rw[h'];exact ((Ee h.tb _).sub hB _ ha _).mono (by omega)
theorem SZ {l:List Int} (h:∀ x∈l,bF x):NB 1099511627776 (hJ l):=fun p hp=>by
  obtain ⟨x,hx,rfl⟩:=ca.1 hp
  have:=h x hx
  unfold bF at this
  show -1099511627776≤x∧x≤1099511627776
  omega
theorem DH {m:aj} {p:Pr} (hp:eW m p=true):∀ x∈p.az,bF x:=fun x hx=>by
  unfold eW at hp
  simp only[bk,kx,List.any_eq_false] at hp
  have:=hp.2 _ hx
  rw[nf] at this
  simp only[bk,kx,decide_eq_true_eq,not_and,Bool.not_eq_false] at this
  by_cases hz:x=0
  · subst hz;unfold bF;decide
  · exact jY (this hz)
theorem iG {α β:Type} [Inhabited α] [Inhabited β] (f:α→β) (l:List α) (i:Nat) (h:i<l.length):(l.map f).getD i default=f (l.getD i default):=by
  rw[aA,cm,aA,bX h];rfl
theorem SD {m:aj} (hm:VM m):LG m 1099511627776 (S0 m,T0 m):=by
  refine⟨by simp[S0],by simp[T0],fun i hi=>?_,fun i hi=>?_,fun r hr=>?_,fun r hr=>?_⟩
  · show ((S0 m).getD i default).length=_
    rw[S0,iG _ _ _ hi];simp[hJ,jL]
  · show ((T0 m).getD i default).length=_
    rw[T0,iG _ _ _ hi];simp[hJ]
  · obtain ⟨l,hl,rfl⟩:=ca.1 hr
    refine SZ fun x hx=>?_
    obtain ⟨o,ho,rfl⟩:=ca.1 hx
    exact AR (hm.kI l hl o ho)
  · obtain ⟨p,hp,rfl⟩:=ca.1 hr
    exact SZ (DH (jh hm.pr p hp))
theorem SE {m:aj} (hm:VM m) (l:List Mv) (hl:∀ x∈l,o6 m x=true):LG m (1099511627776+268435456 * 25 * l.length) (mK m l (S0 m,T0 m)):=by
  have key:∀ (l:List Mv) (B:Int) (g:Lg),0≤B→(∀ x∈l,o6 m x=true)→LG m B g→LG m (B+268435456 * 25 * l.length) (mK m l g):=by
    intro l
    induction l with
    | nil=>intro B g _ _ h;simpa [mK] using h
    | cons x r ih =>
      intro B g hB hx h
      have h1:=Sm hm hB h (hx x (by simp))
      have h2:=ih _ _ (by omega) (fun y hy=>hx y (by simp[hy])) h1
      show LG m _ (mK m r (og m x g))
      have e:B+268435456 * 25+268435456 * 25 * (r.length:Int)=B+268435456 * 25 * ((x::r).length:Int):=by simp only[dH];omega
      rw[e] at h2;exact h2
  exact key l _ _ (by decide) hl (SD hm)
theorem HW {B:Int}:∀ (l:List Nm) (s:List Bool) (b:Int × Bool),NB B l→(-B≤b.1∧b.1≤B)→-B≤(fx l s b).1∧(fx l s b).1≤B
  | [],s,b,_,hb=>by cases s<;>exact hb
  | p::r,[],b,_,hb=>hb
  | p::r,is::s,b,h,hb=>by
    rw[fx]
    refine HW r s _ (fun q hq=>h q (by simp[hq])) ?_
    have:=h p (by simp)
    split
    · exact this
    · exact hb
theorem S1 {B:Int}:∀ (l:List (Int × Bool)) (z:Int × Bool),(∀ p∈l,-B≤p.1∧p.1≤B)→z.1 - B * l.length≤(cN l z).1∧(cN l z).1≤z.1+B * l.length
  | [],z,_=>by show z.1 - _≤z.1∧z.1≤z.1+_;simp
  | p::r,z,h=>by
    have h1:=S1 r (z.1+p.1,z.2 || !p.2) fun q hq=>h q (by simp[hq])
    have h2:=h p (by simp)
    show _≤(cN r (z.1+p.1,z.2 || !p.2)).1∧_
    rw[dH,Int.natCast_add,Int.mul_add]
    dsimp only at h1
    simp only[Int.cast_ofNat_Int,Int.mul_one]
    show z.1 - (B * r.length+B)≤(cN r (z.1+p.1,z.2 || !p.2)).1∧(cN r (z.1+p.1,z.2 || !p.2)).1≤z.1+(B * r.length+B)
    omega
def vN:Int:=1099511627776+268435456 * 25 * 2000
theorem abQ {left:List (List Bool)} {S:List (List Nm)} {B:Int} (hB:0≤B) (h:∀ r∈S,NB B r) (n:Nat):∀ p∈PC left S n,-B≤p.1∧p.1≤B:=fun p hp=>by
  obtain ⟨i,_,rfl⟩:=ca.1 hp
  exact HW _ _ _ (Ee h i) (by dsimp only;omega)
theorem abR {m:aj} {left:List (List Bool)} {T:List (List Nm)} {B:Int} (hB:0≤B) (h:∀ r∈T,NB B r) (n:Nat):∀ p∈PP m left T n,-B≤p.1∧p.1≤B:=fun p hp=>by
  obtain ⟨i,_,rfl⟩:=ca.1 hp
  exact HW _ _ _ (Ee h i) (by dsimp only;omega)
theorem abS (most bL n:Int) (hm:0≤most) (hp:0≤bL):0≤jk most bL n∧jk most bL n≤1099511627776:=by
  unfold jk
  split
  · omega
  · have:=p6 (show 0≤n - most by omega) hp
    omega
theorem abT {m:aj} (hm:VM m) (i:Nat):0≤(m.au.getD i default).most∧0≤(m.au.getD i default).bL:=by
  rcases eF i m.au.length with hi | hi
  · obtain ⟨_,h2,h3,_⟩:=lj (hm.ct _ (aC (d:=default) hi))
    exact⟨h2.1,(jY h3).1⟩
  · rw[aA,eS hi];decide
theorem abU {m:aj} (hm:VM m) {left:List (List Bool)} (n:Nat):∀ p∈PK m left n,-1099511627776≤p.1∧p.1≤1099511627776:=fun p hp=>by
  obtain ⟨i,_,rfl⟩:=ca.1 hp
  have:=abT hm i
  have:=abS (m.au.getD i default).most (m.au.getD i default).bL (rQ (m.au.getD i default).aS 0 left 0) this.1 this.2
  unfold oa
  dsimp only
  omega
theorem Ef (left:List (List Bool)) (S:List (List Nm)) (n:Nat):(PC left S n).length=n:=by simp[PC]
theorem HX (m:aj) (left:List (List Bool)) (S:List (List Nm)) (n:Nat):(PP m left S n).length=n:=by simp[PP]
theorem S2 (m:aj) (left:List (List Bool)) (n:Nat):(PK m left n).length=n:=by simp[PK]
theorem HP (b:List Bool):∀ a:List Bool,(uu a b).length=a.length * b.length
  | []=>by simp[uu]
  | x::r=>by
    show ((b.map (x && ·))++uu r b).length=_
    rw[bV,HP b r,ey,dH,Nat.add_mul];omega
abbrev SC:=Int × Int
def Bd (s:SC) (cost times:Int):SC:=if cost=1099511627776 then (s.1+times,s.2) else (s.1,s.2+cost * times)
def w6 (m:aj) (plan:List Int):Int:=if dz m≠0 then dz m else if (!oX m plan || plan.contains (-1))=true then 17 else 0
structure FP (m:aj) (plan:List Int):Prop where
  len:plan.length=m.cls.length
  get:∀ j,j<plan.length→g7 m (j:Nat) (plan.getD j 0)=true
theorem FP.pm {m:aj} {plan:List Int} (h:FP m plan):PM m plan:=⟨h.len,fun j hj=>.inr (h.get j hj)⟩
def SB (s:SC) (n:Nat):Prop:=0≤s.1∧s.1≤1048576 * n∧0≤s.2∧s.2≤1099511627776 * n
theorem SB.zero:SB (0,0) 0:=by unfold SB;decide
theorem SB.mono {s:SC} {n k:Nat} (h:SB s n) (hk:n≤k):SB s k:=by unfold SB at *;omega
def abV (c:Int):Prop:=0≤c∧c≤1048576∨c=1099511627776
theorem abW {c t:Int} (hc:0≤c∧c≤1048576) (ht:0≤t∧t≤1048576):0≤c * t∧c * t≤1099511627776 :=
  ⟨p6 hc.1 ht.1,Int.le_trans (Int.mul_le_mul hc.2 ht.2 ht.1 (by omega)) (by decide)⟩
theorem SB.add {s:SC} {n:Nat} (h:SB s n) {c t:Int} (hc:abV c) (ht:0≤t∧t≤1048576):SB (Bd s c t) (n+1):=by
  unfold SB Bd at *
  split
  · dsimp only;omega
  · have:=abW (hc.resolve_right (by assumption)) ht
    dsimp only;omega
def rS:List Ld→Int→Int→Int
  | [],_,_=>0
  | x::r,i,o=>if x.cls=i∧x.opt=o then x.wt else rS r i o
def qL (l:List Ld):Nat→List Int→Int
  | _,[]=>0
  | i,o::r=>rS l i o+qL l (i+1) r
theorem S3:∀ (plan:List Int) (i:Nat),qL [] i plan=0
  | [],_=>rfl
  | o::r,i=>by rw[qL,rS,S3 r];rfl
theorem S4 (x:Ld) (l:List Ld):∀ (plan:List Int) (i:Nat),qL (x::l) i plan=qL l i plan+if (i:Int)≤x.cls∧x.cls<i+plan.length∧plan.getD (x.cls - i).toNat 0=x.opt then x.wt - rS l x.cls x.opt else 0
  | [],i=>by rw[qL,qL,if_neg (by simp;omega)];rfl
  | o::r,i=>by
    rw[qL,qL,S4 x l r (i+1),rS]
    by_cases h:x.cls=i
    · rw[if_neg (c:=((i+1:Nat):Int)≤x.cls∧_) (by omega)]
      rw[show (x.cls - i).toNat=0 by omega,gb,dH]
      by_cases ho:x.opt=o
      · rw[if_pos ⟨h,ho⟩,if_pos ⟨by omega,by omega,ho.symm⟩,h,ho];omega
      · rw[if_neg (fun h'=>ho h'.2),if_neg (fun h'=>ho h'.2.2.symm)];omega
    · rw[if_neg (c:=x.cls=i∧x.opt=o) (fun h'=>h h'.1)]
      have e:((i+1:Nat):Int)≤x.cls∧x.cls<(i+1:Nat)+r.length∧r.getD (x.cls - (i+1:Nat)).toNat 0=x.opt↔(i:Int)≤x.cls∧x.cls<i+(o::r).length∧(o::r).getD (x.cls - i).toNat 0=x.opt:=by
        rw[dH]
        by_cases bw:(i:Int)<x.cls
        · rw[show (x.cls - i).toNat=(x.cls - (i+1:Nat)).toNat+1 by omega,eJ]
          constructor
          · rintro ⟨a,b,c⟩;exact⟨by omega,by omega,c⟩
          · rintro ⟨a,b,c⟩;exact⟨by omega,by omega,c⟩
        · constructor
          · rintro ⟨a,b,c⟩;omega
          · rintro ⟨a,b,c⟩;omega
      simp only[e]
      omega
theorem S5:∀ (l:List Ld) (i o:Int),(∀ y∈l,¬ (y.cls=i∧y.opt=o))→rS l i o=0
  | [],_,_,_=>rfl
  | x::r,i,o,h=>by rw[rS,if_neg (h x (by simp)),S5 r i o fun y hy=>h y (by simp[hy])]
theorem vL {m:aj}:∀ {l:List Ld} {q:Ld},dx m (some q) l=true→∀ y∈l,q.cls<y.cls∨(q.cls=y.cls∧q.opt<y.opt)
  | [],_,_,y,hy=>by simp at hy
  | x::r,q,h,y,hy=>by
    rw[dx] at h
    simp only[bk,decide_eq_true_eq] at h
    have h1:=DV.1 h.1.2
    rcases cu.1 hy with rfl | hy
    · exact h1
    · have:=vL h.2 y hy;omega
theorem Sy {m:aj} {plan:List Int} (hp:plan.length=m.cls.length):∀ {l:List Ld} {q:Option Ld} (n:Int),dx m q l=true→iU plan l n=n+qL l 0 plan
  | [],_,n,_=>by rw[iU,S3];omega
  | x::r,q,n,h=>by
    have hr:dx m (some x) r=true:=by
      rw[dx.eq_def] at h
      simp only[bk] at h
      exact h.2
    have hx:=(nZ h x (by simp)).1
    obtain ⟨a,b,c,d⟩:=fZ.1 hx
    rw[iU,Sy hp _ hr,S4,S5 r x.cls x.opt (fun y hy he=>by have:=vL hr y hy;omega)]
    rw[show (x.cls - ((0:Nat):Int)).toNat=x.cls.toNat by simp]
    by_cases e:plan.getD x.cls.toNat 0=x.opt
    · rw[if_pos e,if_pos ⟨by omega,by omega,e⟩];omega
    · rw[if_neg e,if_neg (fun h'=>e h'.2.2)];omega
structure Nd where
  cls:Int
  kids:List Int
  eU:List Mv
  dt:List Int
  cells:List (List (Int × Int))
  deriving Inhabited
def HY (l:List (Int × Int)):List AV:=[.tree 2 (rowsOf bA l)]
instance:Row HY 1:=⟨fun _=>rfl,fun x v hv=>by
  simp only[HY,cu,ly,or_false] at hv
  subst hv;exact .inr ⟨_,_,rfl⟩⟩
def cL (x:Nd):List AV:=[.lit (.int .i64 x.cls),.tree 1 (ints x.kids),.tree 4 (rowsOf vC x.eU),.tree 1 (ints x.dt),.tree 1 (rowsOf HY x.cells)]
instance:Row cL 5:=⟨fun _=>rfl,fun x v hv=>by
  simp only[cL,cu,ly,or_false] at hv
  rcases hv with rfl | rfl | rfl | rfl | rfl
  · exact .inl ⟨_,rfl,rfl⟩
  all_goals exact .inr ⟨_,_,rfl⟩⟩
def cH (P:List Nd):List AV:=[.tree 5 (rowsOf cL P)]
structure PB (P:List Nd):Prop where
  w0:P.length<9223372036854775808
  kids:∀ x∈P,x.kids.length<9223372036854775808
  eU:∀ x∈P,x.eU.length<9223372036854775808
  dt:∀ x∈P,x.dt.length<9223372036854775808
  cells:∀ x∈P,x.cells.length<9223372036854775808
  cell:∀ x∈P,∀ l∈x.cells,l.length<9223372036854775808
def ni (m:aj) (x:Nd):Bool :=
  if x.cls = -1 then decide (x.kids.length=0∧(x.dt.length=0→x.cells.length=0)∧(0<x.dt.length→x.eU.length=0))
  else decide (0≤x.cls∧x.cls<m.cls.length∧x.kids.length=(m.cls.getD x.cls.toNat default).length∧x.eU.length=0∧x.dt.length=0∧x.cells.length=0)
def o8 (n i:Nat) (k:Int):Bool:=decide ((i:Int)<k∧k<n)
def lM (m:aj) (n i:Nat) (x:Nd):Bool:=ni m x && x.kids.all (o8 n i)
def iW (P:List Nd):List Int:=P.flatMap (·.kids)
def jN (n:Nat) (l:List Int):List Int:=(aN n).map fun (j:Nat)=>(l.count (j:Int):Int)
def lN (m:aj) (P:List Nd):Bool :=
  decide (1≤P.length∧P.length≤20000) && ((aN P.length).all fun i=>lM m P.length i (P.getD i default)) && !((jN P.length (iW P)).drop 1).any (fun x=>x != 1)
theorem Eg (n:Nat) (l:List Int):(jN n l).length=n:=by simp[jN]
theorem S6 {n:Nat} (l:List Int) {j:Nat} (h:j<n):(jN n l).getD j 0=(l.count (j:Int):Int):=by
  unfold jN
  rw[aA,cm,oB h];rfl
theorem abX (n:Nat) (l:List Int) (k:Nat) (h:k<n):jN n (l++[(k:Int)])=(jN n l).set k ((jN n l).getD k 0+1):=by
  apply nt
  intro j
  rw[b6,S6 l h]
  unfold jN
  rw[cm,ey,List.length_range]
  by_cases hj:j<n
  · rw[oB hj,gf,List.count_append]
    by_cases e:k=j
    · subst e;rw[if_pos rfl,if_pos h];simp
    · rw[if_neg e,cm,oB hj,gf]
      have:((k:Int) == (j:Int))=false:=by rw[beq_eq_false_iff_ne];omega
      simp[List.count_cons,this]
  · rw[eS (by simpa using hj)]
    split
    · omega
    · rw[eS (by simpa using hj)];rfl
theorem abY (n:Nat):jN n []=List.replicate n 0:=by
  apply nt
  intro j
  unfold jN
  rw[cm,List.getElem?_replicate]
  by_cases hj:j<n
  · rw[oB hj,if_pos hj];rfl
  · rw[eS (by simpa using hj),if_neg hj];rfl
theorem Eh {m:aj} {x:Nd} (hm:VM m) (h:ni m x=true):x.kids.length≤24:=by
  unfold ni at h
  split at h
  · rw[decide_eq_true_eq] at h;omega
  · rw[decide_eq_true_eq] at h
    have:=hm.opt _ (aC (l:=m.cls) (i:=x.cls.toNat) (d:=default) (by omega))
    omega
theorem S7 {m:aj} {n:Nat} (hm:VM m):∀ (P:List Nd),(∀ x∈P,ni m x=true)→(iW P).length≤24 * P.length
  | [],_=>by simp[iW]
  | x::r,h=>by
    have h1:=Eh hm (h x (by simp))
    have h2:=S7 (n:=n) hm r fun y hy=>h y (by simp[hy])
    unfold iW at h2 ⊢
    rw[List.flatMap_cons,bV,dH];omega
theorem abZ {n:Nat} {l:List Int} {j:Nat} (h:j<n):0≤(jN n l).getD j 0∧(jN n l).getD j 0≤l.length:=by
  rw[S6 l h]
  have:=List.count_le_length (a:=(j:Int)) (l:=l)
  omega
theorem S8 (P:List Nd) (x:Nd):iW (P++[x])=iW P++x.kids:=by unfold iW;rw[List.flatMap_append];simp
theorem S9 {m:aj} {P:List Nd} {i:Nat} (hi:i<P.length) (h:lM m P.length i (P.getD i default)=false):lN m P=false:=by
  unfold lN
  have:((aN P.length).all fun i=>lM m P.length i (P.getD i default))=false:=by
    rw[Bool.eq_false_iff]
    intro h2
    rw[gU] at h2
    rw[h2 i (lP.2 hi)] at h
    cases h
  rw[this,Bool.and_false,mq]
theorem S' {m:aj} {P:List Nd} (h:¬(1≤P.length∧P.length≤20000)):lN m P=false:=by
  unfold lN;rw[decide_eq_false h,mq,mq]
theorem Ta {m:aj} {P:List Nd} (h:1≤P.length∧P.length≤20000) (ha:∀ i,i<P.length→lM m P.length i (P.getD i default)=true):lN m P = !((jN P.length (iW P)).drop 1).any (fun x=>x != 1):=by
  unfold lN
  have:((aN P.length).all fun i=>lM m P.length i (P.getD i default))=true:=by
    rw[gU];intro i hi;exact ha i (lP.1 hi)
  rw[this,decide_eq_true h,ic,ic]
theorem Tb:∀ (l:List Int) (i:Nat) (x:Int),i<l.length→iV (l.set i x)=iV l - l.getD i 0+x
  | [],i,x,h=>by simp at h
  | y::r,0,x,_=>by simp only[List.set_cons_zero,iV,gb];omega
  | y::r,i+1,x,h=>by
    have:=Tb r i x (by simpa using h)
    simp only[List.set_cons_succ,iV,eJ];omega
structure Rel (R:Int) (out:List Int) (s:SC) (n:Nat):Prop where
  ok:gR R out
  b0:0≤s.1
  c0:0≤s.2∧s.2≤1048576 * n
  eq:s.1=0→iV out=s.2
  ff:0<s.1→1099511627776∈out
theorem Rel.mono {R:Int} {out:List Int} {s:SC} {n k:Nat} (h:Rel R out s n) (hk:n≤k):Rel R out s k :=
  ⟨h.ok,h.b0,by have:=h.c0;omega,h.eq,h.ff⟩
theorem Rel.add {R:Int} {out:List Int} {s:SC} {n k:Nat} (h:Rel R out s n) {r d c t:Int} (hr:0≤r∧r<R) (ht:0≤t)
    (hc:(c=1099511627776∧d=if 0<t then 1099511627776 else 0)∨(c≠1099511627776∧d=c * t∧0≤d∧d≤1048576 * k)) (hb:n+k<1048576) :
    Rel R (ef out r d) (Bd s c t) (n+k):=by
  have ei:bF d:=by
    unfold bF
    rcases hc with ⟨_,h⟩ | ⟨_,_,h1,h2⟩
    · rw[h];split<;>omega
    · omega
  have hlen:=h.ok.1
  have hi:r.toNat<out.length:=by omega
  have hg:=h.ok.get r.toNat
  have cX:=aC (d:=(0:Int)) hi
  have hs:=Hu h.ok.2 _ cX
  have gr:=Tb out r.toNat (dw (out.getD r.toNat 0) d) hi
  have nQ:=h.c0
  have y7:=h.b0
  have Be:dw (out.getD r.toNat 0) d∈ef out r d:=by
    unfold ef
    have:(out.set r.toNat (dw (out.getD r.toNat 0) d)).getD r.toNat 0=dw (out.getD r.toNat 0) d:=by
      rw[aA,Fu hi];rfl
    have HZ:=aC (l:=out.set r.toNat (dw (out.getD r.toNat 0) d)) (i:=r.toNat) (d:=0) (by simpa using hi)
    rwa [this] at HZ
  have Td:1099511627776∈out→1099511627776∈ef out r d:=by
    intro hm
    obtain ⟨j,hj,Te⟩:=sh.1 hm
    by_cases Tf:r.toNat=j
    · subst Tf
      have:out.getD r.toNat 0=1099511627776:=by rw[aA,bX hj];exact Te
      rw[this] at Be
      have e:dw 1099511627776 d=1099511627776:=by unfold bF at ei;unfold dw;omega
      rwa [e] at Be
    · have:(ef out r d).getD j 0=1099511627776:=by
        unfold ef
        rw[aA,bm Tf,bX hj];exact Te
      have HZ:=aC (l:=ef out r d) (i:=j) (d:=0) (by unfold ef;simpa using hj)
      rwa [this] at HZ
  unfold bF at hg ei
  rcases hc with ⟨H0,hd⟩ | ⟨H0,hd,hd0,Tg⟩
  · unfold Bd
    rw[if_pos H0]
    refine⟨h.ok.add (by unfold bF;exact ei),by dsimp only;omega,by dsimp only;omega,fun hz=>?_,fun hz=>?_⟩
    · dsimp only at hz ⊢
      have:d=0:=by rw[hd,if_neg (by omega)]
      rw[← h.eq (by omega)]
      unfold ef
      rw[gr]
      unfold dw
      omega
    · dsimp only at hz
      by_cases htz:0<t
      · have:dw (out.getD r.toNat 0) d=1099511627776:=by rw[hd,if_pos htz];unfold dw;omega
        rwa [this] at Be
      · exact Td (h.ff (by omega))
  · unfold Bd
    rw[if_neg H0,← hd]
    refine⟨h.ok.add (by unfold bF;exact ei),by dsimp only;omega,by dsimp only;omega,fun hz=>?_,fun hz=>?_⟩
    · dsimp only at hz ⊢
      have he:=h.eq hz
      unfold ef
      rw[gr]
      unfold dw
      omega
    · exact Td (h.ff hz)
theorem Th {m:aj}:∀ (plan:List Int) (i:Nat),(∀ j,j<plan.length→plan.getD j 0 = -1∨g7 m ((i+j:Nat):Int) (plan.getD j 0)=true)→qI m i plan=true
  | [],_,_=>rfl
  | o::r,i,h=>by
    rw[qI,bk,Bool.or_eq_true,decide_eq_true_eq]
    refine⟨by simpa using h 0 (by simp),Th r (i+1) fun j hj=>?_⟩
    have:=h (j+1) (by simpa using hj)
    rwa [eJ,show i+(j+1)=i+1+j by omega] at this
theorem Ti {m:aj} {plan:List Int} (h:PM m plan):oX m plan=true:=by
  rw[oX,if_neg (by rw[h.len];simp)]
  exact Th plan 0 fun j hj=>by rw[Nat.zero_add];exact h.get j hj
theorem G4 {m:aj} {plan:List Int} (hm:VM m) (hp:PM m plan):nV m plan=(iF (gQ m plan) 0,gQ m plan,0):=by
  rw[nV,if_neg (by rw[eB.2 hm];simp),if_neg (by rw[Ti hp];simp)]
  rfl
theorem ab1 {m:aj} {plan:List Int} (hm:VM m) (hp:FP m plan):w6 m plan=0:=by
  unfold w6
  rw[if_neg (by rw[eB.2 hm];simp),Ti hp.pm,if_neg]
  simp only[lR,Bool.false_or,Bool.not_eq_true]
  cases h:plan.contains (-1) with
  | false=>rfl
  | true =>
    obtain ⟨j,hj,e⟩:=sh.1 (tB.1 h)
    have:=fZ.1 (hp.get j hj)
    rw[aA,bX hj] at this
    simp only[mP] at this
    omega
def Ei (m:aj) (a x b y:Int) (p:Pr):Bool:=decide (p.fst=a∧p.snd=b∧lk m p x y=1099511627776)
def vO (m:aj) (a x b y:Int):Bool:=if b<a then m.ae.any (Ei m b y a x) else m.ae.any (Ei m a x b y)
theorem ab2 {m:aj} {a x b y:Int} (h:a≠b):vO m a x b y=vO m b y a x:=by
  unfold vO
  by_cases h1:b<a
  · rw[if_pos h1,if_neg (by omega)]
  · rw[if_neg h1,if_pos (by omega)]
structure CI (m:aj) (plan out mv:List Int):Prop where
  fp:FP m out
  nd:mv.Nodup
  rg:∀ x∈mv,0≤x∧x<out.length
  un:∀ y:Nat,y<out.length→¬ (y:Int)∈mv→out.getD y 0=plan.getD y 0
theorem H2:∀ {n:Nat} {l:List Int},l.Nodup→(∀ x∈l,0≤x∧x<n)→l.length≤n
  | 0,l,h,hr=>by
    cases l with
    | nil=>simp
    | cons x r=>have:=hr x (by simp);omega
  | n+1,l,h,hr=>by
    by_cases hm:(n:Int)∈l
    · have h1:=List.length_erase_of_mem hm
      have h2:=H2 (n:=n) (h.erase (n:Int)) fun x hx=>by
        have h3:=(List.Nodup.mem_erase_iff h).1 hx
        have:=hr x h3.2
        omega
      omega
    · have:=H2 (n:=n) h fun x hx=>by
        have:=hr x hx
        have:x≠n:=fun e=>hm (e ▸ hx)
        omega
      omega
theorem CI.len {m:aj} {plan out mv:List Int} (h:CI m plan out mv):mv.length≤out.length:=H2 h.nd h.rg
theorem CI.step {m:aj} {plan out mv:List Int} (h:CI m plan out mv) {y:Nat} (hy:y<out.length) (hm:¬ (y:Int)∈mv) {o:Int} (ho:g7 m (y:Nat) o=true):CI m plan (out.set y o) (mv++[(y:Int)]):=by
  refine⟨?_,?_,?_,?_⟩
  · refine⟨by rw[bI];exact h.fp.len,fun j hj=>?_⟩
    rw[bI] at hj
    by_cases e:y=j
    · subst e
      rw[aA,Fu hj]
      exact ho
    · rw[aA,bm e,← aA]
      exact h.fp.get j hj
  · rw[List.nodup_append]
    refine⟨h.nd,by simp,fun a ha b hb=>?_⟩
    rw[eM] at hb
    subst hb
    intro e;subst e;exact hm ha
  · intro x hx
    rw[bI]
    rcases cr.1 hx with hx | hx
    · exact h.rg x hx
    · rw[eM.1 hx];omega
  · intro j hj hn
    rw[bI] at hj
    rw[cr,not_or,eM] at hn
    rw[aA,bm (by omega),← aA]
    exact h.un j hj hn.1
def Tj (c o:Int) (y:Int × Int):Bool:=decide (y=(c,o))
def Tk (m:aj) (a b:Int × Int):Bool:=decide (a.1=b.1) || vO m a.1 a.2 b.1 b.2
def Tl (m:aj) (g:List Int) (l:List (Int × Int)) (i:Nat):Bool:=g.contains (l.getD i default).1 && g7 m (l.getD i default).1 (l.getD i default).2 && (l.take i).all (Tk m (l.getD i default))
def Tm (m:aj) (g:List Int) (l:List (Int × Int)):Bool:=(aN l.length).all (Tl m g l)
def Tn (m:aj) (g:List Int):Bool:=(aN g.length).all fun i=>decide (0≤g.getD i 0∧g.getD i 0<m.cls.length∧(i=0∨g.getD (i - 1) 0<g.getD i 0))
def To (left:List (List Bool)) (cells:List (List (Int × Int))) (c:Int):Bool :=
  (aN (left.getD c.toNat default).length).all fun o=>!(left.getD c.toNat default).getD o false || cells.any fun l=>l.any (Tj c o)
def Ej (m:aj) (x:Nd) (left:List (List Bool)):Bool :=
  Tn m x.dt && decide (x.cells.length<x.dt.length) && x.cells.all (Tm m x.dt) && x.dt.all (To left x.cells)
theorem Ek {n:Nat} {f:Nat→Bool}:(aN n).all f=true↔∀ i,i<n→f i=true:=by
  rw[gU]
  exact⟨fun h i hi=>h i (lP.2 hi),fun h i hi=>h i (lP.1 hi)⟩
theorem ab3 {m:aj} {g:List Int} (h:Tn m g=true):∀ c∈g,0≤c∧c<m.cls.length:=fun c hc=>by
  obtain ⟨i,hi,rfl⟩:=List.getElem_of_mem hc
  have:=Ek.1 h i hi
  rw[decide_eq_true_eq,aA,bX hi] at this
  exact⟨this.1,this.2.1⟩
def uz (v:Int):List Int→Int→Int
  | [],_=>-1
  | x::r,k=>if v=x then k else uz v r (k+1)
theorem Tp (v:Int):∀ (l:List Int) (k:Int),0≤k→(0≤uz v l k↔v∈l)
  | [],k,hk=>by simp[uz]
  | x::r,k,hk=>by
    rw[uz]
    split
    · rename_i h;simp[h,hk]
    · rename_i h
      rw[Tp v r (k+1) (by omega)]
      simp[h]
theorem ab4 (l:List Int) (v:Int) (hl:l.length<9223372036854775808):an Tryz.prog 165 [.tree 1 (ints l),.lit (.int .i64 v)] [] (.lit (.int .i64 (uz v l 0))) []:=by
  generalize ao:uz v l 0=res
  refine an.aD (fn:=Tryz.f165) 19 0 [.tmp 4] Tryz.func165 rfl rfl rfl rfl rfl (by simp) ?_
  repeat' (first|(refine Xr X0 ?_;intro K hK)|(refine hK _ ?_;clear hK K)|refine Xz ?_|fail)
  refine aU (fun k:Nat=>(⟨aw [(0,.tree 1 (ints l)),(1,.lit (.int .i64 v)),(7,.lit (.int .i64 l.length)),(8,.lit (.int .i64 k))],[]⟩:St)) (fun k=>k≤l.length∧uz v (l.drop k) k=res) (fun k=>l.length - k) 0 ⟨aM _,ao⟩ (Xv X0) ?_
  rintro k ⟨hk,hr⟩ Ql aq av
  by_cases aH:k<l.length
  · have hd:=cA l k 0 aH
    generalize aR:l.getD k 0=x at *
    rw[hd,uz] at hr
    ((repeat' (first|refine Va @aR ?_|(refine Xi ?_ ?_<;>try intro ht)|exact Xx|fail)))
    · rw[if_pos (by assumption)] at hr
      repeat (refine Xu ?_)
      refine Vb X0 ?_
      rw[← hr]
      exact Cu rfl
    · rw[if_neg (by assumption)] at hr
      exact aq _ (k+1) ⟨by omega,hr⟩ (by omega) (Xv X0)
  · ((repeat' (first|refine Va X0 ?_|(refine Xi ?_ ?_<;>try intro ht)|exact Xx|fail)))
    rw[List.drop_eq_nil_of_le (by omega),uz] at hr
    refine av _ _ rfl ?_;clear aq av Ql
    repeat (refine Xu ?_)
    refine Vb X0 ?_
    rw[← hr]
    exact Cu rfl
theorem Tq (l:List Int) (v:Int) (hl:l.length<9223372036854775808):an Tryz.prog 122 [.tree 1 (ints l),.lit (.int .i64 v)] [] (.lit (.bool (l.contains v))) []:=by
  have h:=Tp v l 0 (by omega)
  refine an.aD (fn:=Tryz.f122) 9 0 [.tmp 4] Tryz.func122 rfl rfl rfl rfl rfl (by simp) ?_
  repeat' (first|(refine Xq X0 ?_;intro K hK)|refine Xo X0 ?_|refine Xc (ab4 l v hl) ?_|(refine hK _ ?_;clear hK K)|refine Xz ?_|(refine Xe ?_;first|refine aK rfl ?_|refine Xl ?_ ?_)|fail)
  rw[← tB] at h
  cases hb:l.contains v<;>rw[hb] at h
  · rw[decide_eq_false (by simpa using h)]
  · rw[decide_eq_true (by simpa using h)]
theorem ZM (m:aj) (plan:List Int) (hb:MB m) (cq:plan.length<9223372036854775808):an Tryz.prog 71 [.agg (ar m),.tree 1 (ints plan)] [] (.lit (.int .i64 (w6 m plan))) []:=by
  generalize ao:w6 m plan=res
  unfold w6 at ao
  refine an.aD (fn:=Tryz.f71) 19 0 [.tmp 4] Tryz.func71 rfl rfl rfl rfl rfl (by simp) ?_
  repeat' (first|(refine Xq X0 ?_;intro K hK)|refine Xo X0 ?_|refine Xc (qz m hb) ?_|refine Xc (R4 m plan cq) ?_|refine Xc (Tq plan (-1) cq) ?_|(refine hK _ ?_;clear hK K)|(refine Xg X0 ?_ ?_<;>try intro hb)|(refine Xi ?_ ?_<;>try intro ht)|refine Xz ?_|(refine Xe ?_;first|refine aK rfl ?_|refine Xl ?_ ?_)|exact Xx|fail)
  all_goals (rw[← ao];first|(rw[if_pos (by assumption)];done)|(rw[if_neg (by omega),if_pos (by simp only[*,lR,Bool.not_false,Bool.true_or,Bool.or_true])];done)|(rw[if_neg (by omega),if_neg (by simp only[*,lR,Bool.or_false,Bool.false_eq_true,not_false_eq_true])];done))
end T

