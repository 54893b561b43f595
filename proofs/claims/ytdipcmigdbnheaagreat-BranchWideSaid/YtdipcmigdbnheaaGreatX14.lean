import Derived.Test.YtdipcmigdbnheaaGreatX13
set_option linter.unusedVariables false
set_option linter.unusedSimpArgs false
set_option linter.unnecessarySimpa false
set_option linter.unusedSectionVars false
set_option maxHeartbeats 64000000
set_option maxRecDepth 20000
open List renaming foldl_append→zI,range→bn,getD_eq_getElem?_getD→ay,getElem?_eq_none→dM,mem_or_eq_of_mem_set→pY,getElem?_set→bO,length_set→bF,mem_map→bV,getElem?_map→bR,getElem?_eq_getElem→bm,length_cons→dI,length_append→bU,length_map→eD,getD_cons_zero→fT,getD_cons_succ→ep,replicate→aW
open Nat renaming lt_or_ge→dG,add_mul→fC,add_zero→gU,zero_add→eK
open Bool renaming and_eq_true→a7,not_eq_true'→jh
open Int renaming mul_nonneg→pt,le_refl→c9,add_zero→L8,zero_add→tq
open Go Go.Am
namespace T
def S0 (m:ae):List (List Nm):=m.cls.map fun l=>dt (gb l)
def T0 (m:ae):List (List Nm):=m.ah.map fun p=>dt p.aP
def nt (r:List Nm) (i:Nat) (a:Int):List Nm:=r.set i ((r.getD i default).1+a,(r.getD i default).2)
def j9 (f:Nat→Nat) (a:Int):Nat→List Nm→List Nm
  | 0,t=>t
  | k+1,t=>nt (j9 f a k t) (f k) (-a)
abbrev Lg:=List (List Nm) × List (List Nm)
def qn (m:ae) (x:Mv):(Nat→Nat) × Nat :=
  if x.side=0 then (fun k=>(x.opt * (m.cls.getD (m.ah.getD x.pair.toNat default).snd.toNat default).length+k).toNat,(m.cls.getD (m.ah.getD x.pair.toNat default).snd.toNat default).length)
  else (fun k=>((k:Int) * (m.cls.getD (m.ah.getD x.pair.toNat default).snd.toNat default).length+x.opt).toNat,(m.cls.getD (m.ah.getD x.pair.toNat default).fst.toNat default).length)
def ln (m:ae) (x:Mv) (g:Lg):Lg :=
  (g.1.set (kL m x).toNat (nt (g.1.getD (kL m x).toNat default) x.opt.toNat x.gM),g.2.set x.pair.toNat (j9 (qn m x).1 x.gM (qn m x).2 (g.2.getD x.pair.toNat default)))
def je (m:ae) (l:List Mv) (g:Lg):Lg:=l.foldl (fun g x=>ln m x g) g
theorem acX (m:ae) (l:List Mv) (x:Mv) (g:Lg):je m (l++[x]) g=ln m x (je m l g):=by unfold je;rw[zI];rfl
def pJ (a b:List Bool):List Bool:=a.flatMap fun x=>b.map fun y=>x && y
def PC (left:List (List Bool)) (S:List (List Nm)) (n:Nat):List (Int × Bool):=(bn n).map fun i=>cY (S.getD i default) (left.getD i default) (0,false)
def gN (m:ae) (left:List (List Bool)) (i:Nat):List Bool:=pJ (left.getD (m.ah.getD i default).fst.toNat default) (left.getD (m.ah.getD i default).snd.toNat default)
def PP (m:ae) (left:List (List Bool)) (T:List (List Nm)) (n:Nat):List (Int × Bool):=(bn n).map fun i=>cY (T.getD i default) (gN m left i) (0,false)
def PK (m:ae) (left:List (List Bool)) (n:Nat):List (Int × Bool):=(bn n).map fun i=>(lO left (m.av.getD i default),!(decide ((m.av.getD i default).bg=1099511627776) && decide (0<lO left (m.av.getD i default))))
def bI (l:List (Int × Bool)) (z:Int × Bool):Int × Bool:=l.foldl (fun z p=>(z.1+p.1,z.2 || !p.2)) z
def nr (m:ae) (left:List (List Bool)) (g:Lg):Int :=
  if (bI (PK m left m.av.length) (bI (PP m left g.2 m.ah.length) (bI (PC left g.1 m.cls.length) (0,false)))).2=true then 1099511627776
  else min (bI (PK m left m.av.length) (bI (PP m left g.2 m.ah.length) (bI (PC left g.1 m.cls.length) (0,false)))).1 1099511627776
def iw (m:ae) (left:List (List Bool)) (l:List Mv):Int × Int :=
  if 2000<l.length then (0,2) else if l.all (lk m)=false then (0,3) else (nr m left (je m l (S0 m,T0 m)),0)
def AH (m:ae) (left:List (List Bool)) (l:List Mv):Int × Int:=if Fs m left≠0 then (0,Fs m left) else iw m left l
theorem AI (l:List (Int × Bool)) (p z:Int × Bool):bI (l++[p]) z=((bI l z).1+p.1,(bI l z).2 || !p.2):=by unfold bI;rw[zI];rfl
theorem yR {β:Type} (f:Nat→β) (n:Nat):(bn (n+1)).map f=(bn n).map f++[f n]:=by rw[List.range_succ,List.map_append];rfl
def NB (B:Int) (r:List Nm):Prop:=∀ p∈r,-B≤p.1∧p.1≤B
theorem NB.get {B:Int} {r:List Nm} (h:NB B r) (hB:0≤B) (i:Nat) : -B≤(r.getD i default).1∧(r.getD i default).1≤B:=by
  rcases dG i r.length with hi | hi
  · exact h _ (az hi)
  · rw[ay,dM hi]
    show -B≤(0:Int)∧(0:Int)≤B
    omega
theorem NB.mono {B C:Int} {r:List Nm} (h:NB B r) (hc:B≤C):NB C r:=fun p hp=>by have:=h p hp;omega
theorem NB.add {B:Int} {r:List Nm} (h:NB B r) (hB:0≤B) (i:Nat) {a:Int} (ha : -268435456≤a∧a≤268435456):NB (B+268435456) (nt r i a):=fun p hp=>by
  rcases pY hp with h' | h'
  · have:=h p h';omega
  · have:=h.get hB i
    rw[h'];dsimp only;omega
theorem AJ (r:List Nm) (i:Nat) (a:Int):(nt r i a).length=r.length:=by simp[nt]
theorem CL (f:Nat→Nat) (a:Int):∀ (k:Nat) (t:List Nm),(j9 f a k t).length=t.length
  | 0,t=>rfl
  | k+1,t=>by rw[j9,AJ,CL f a k t]
theorem NB.sub {B:Int} {r:List Nm} (h:NB B r) (hB:0≤B) (f:Nat→Nat) {a:Int} (ha : -268435456≤a∧a≤268435456):∀ k:Nat,NB (B+268435456 * k) (j9 f a k r)
  | 0=>by simpa [j9] using h
  | k+1=>by
    rw[j9]
    have:=(NB.sub h hB f ha k).add (by omega) (f k) (a:=-a) (by omega)
    exact this.mono (by omega)
structure LG (m:ae) (B:Int) (g:Lg):Prop where
  s:g.1.length=m.cls.length
  t:g.2.length=m.ah.length
  sl:∀ i,i<m.cls.length→(g.1.getD i default).length=(m.cls.getD i default).length
  tl:∀ i,i<m.ah.length→(g.2.getD i default).length=(m.ah.getD i default).aP.length
  sb:∀ r∈g.1,NB B r
  tb:∀ r∈g.2,NB B r
theorem RD {g:List (List Nm)} {i j:Nat} {r:List Nm} (h:r.length=(g.getD i default).length):((g.set i r).getD j default).length=(g.getD j default).length:=by
  by_cases e:i=j
  · subst e
    rcases dG i g.length with hi | hi
    · simp only[ay,bO,hi,if_true,Option.getD_some];rw[h,ay]
    · rw[List.set_eq_of_length_le hi]
  · simp only[ay,List.getElem?_set_ne e]
theorem uh {B:Int} {g:List (List Nm)} (h:∀ r∈g,NB B r) (i:Nat):NB B (g.getD i default):=by
  rcases dG i g.length with hi | hi
  · exact h _ (az hi)
  · rw[ay,dM hi];intro p hp;cases hp
theorem acY {m:ae} (hm:VM m) (x:Mv):(qn m x).2≤24:=by
  have:∀ i,(m.cls.getD i default).length≤24:=fun i=>by
    rcases dG i m.cls.length with hi | hi
    · exact hm.opt _ (az hi)
    · rw[ay,dM hi];exact Nat.zero_le _
  unfold qn
  split<;>exact this _
theorem RE {m:ae} (hm:VM m) {B:Int} (hB:0≤B) {g:Lg} (h:LG m B g) {x:Mv} (hx:lk m x=true):LG m (B+268435456 * 25) (ln m x g):=by
  unfold lk at hx
  rw[a7,decide_eq_true_eq] at hx
  have ha:=hx.1.2.2.2.2
  have hk:=acY hm x
  refine⟨by rw[ln,bF];exact h.s,by rw[ln,bF];exact h.t,fun i hi=>?_,fun i hi=>?_,fun r hr=>?_,fun r hr=>?_⟩
  · rw[ln];dsimp only
    rw[RD (by rw[AJ])];exact h.sl i hi
  · rw[ln];dsimp only
    rw[RD (by rw[CL])];exact h.tl i hi
  · rcases pY hr with h' | h'
    · exact (h.sb r h').mono (by omega)
    · rw[h'];exact ((uh h.sb _).add hB _ ha).mono (by omega)
  · rcases pY hr with h' | h'
    · exact (h.tb r h').mono (by omega)
    · rw[h'];exact ((uh h.tb _).sub hB _ ha _).mono (by omega)
theorem RF {l:List Int} (h:∀ x∈l,aS x):NB 1099511627776 (dt l):=fun p hp=>by
  obtain ⟨x,hx,rfl⟩:=bV.1 hp
  have:=h x hx
  unfold aS at this
  show -1099511627776≤x∧x≤1099511627776
  omega
theorem Ft {m:ae} {p:Pr} (hp:eG m p=true):∀ x∈p.aP,aS x:=fun x hx=>by
  unfold eG at hp
  simp only[a7,jh,List.any_eq_false] at hp
  have:=hp.2 _ hx
  rw[n5] at this
  simp only[a7,jh,decide_eq_true_eq,not_and,Bool.not_eq_false] at this
  by_cases hz:x=0
  · subst hz;unfold aS;decide
  · exact g7 (this hz)
theorem kH {α β:Type} [Inhabited α] [Inhabited β] (f:α→β) (l:List α) (i:Nat) (h:i<l.length):(l.map f).getD i default=f (l.getD i default):=by
  rw[ay,bR,ay,bm h];rfl
theorem RG {m:ae} (hm:VM m):LG m 1099511627776 (S0 m,T0 m):=by
  refine⟨by simp[S0],by simp[T0],fun i hi=>?_,fun i hi=>?_,fun r hr=>?_,fun r hr=>?_⟩
  · show ((S0 m).getD i default).length=_
    rw[S0,kH _ _ _ hi];simp[dt,gb]
  · show ((T0 m).getD i default).length=_
    rw[T0,kH _ _ _ hi];simp[dt]
  · obtain ⟨l,hl,rfl⟩:=bV.1 hr
    refine RF fun x hx=>?_
    obtain ⟨o,ho,rfl⟩:=bV.1 hx
    exact CC (hm.mf l hl o ho)
  · obtain ⟨p,hp,rfl⟩:=bV.1 hr
    exact RF (Ft (fY hm.pr p hp))
theorem Fu {m:ae} (hm:VM m) (l:List Mv) (hl:∀ x∈l,lk m x=true):LG m (1099511627776+268435456 * 25 * l.length) (je m l (S0 m,T0 m)):=by
  have key:∀ (l:List Mv) (B:Int) (g:Lg),0≤B→(∀ x∈l,lk m x=true)→LG m B g→LG m (B+268435456 * 25 * l.length) (je m l g):=by
    intro l
    induction l with
    | nil=>intro B g _ _ h;simpa [je] using h
    | cons x r ih =>
      intro B g hB hx h
      have h1:=RE hm hB h (hx x (by simp))
      have h2:=ih _ _ (by omega) (fun y hy=>hx y (by simp[hy])) h1
      show LG m _ (je m r (ln m x g))
      have e:B+268435456 * 25+268435456 * 25 * (r.length:Int)=B+268435456 * 25 * ((x::r).length:Int):=by simp only[dI];omega
      rw[e] at h2;exact h2
  exact key l _ _ (by decide) hl (RG hm)
theorem CM {B:Int}:∀ (l:List Nm) (s:List Bool) (b:Int × Bool),NB B l→(-B≤b.1∧b.1≤B)→-B≤(cY l s b).1∧(cY l s b).1≤B
  | [],s,b,_,hb=>by cases s<;>exact hb
  | p::r,[],b,_,hb=>hb
  | p::r,is::s,b,h,hb=>by
    rw[cY]
    refine CM r s _ (fun q hq=>h q (by simp[hq])) ?_
    have:=h p (by simp)
    split
    · exact this
    · exact hb
theorem w7 {B:Int}:∀ (l:List (Int × Bool)) (z:Int × Bool),(∀ p∈l,-B≤p.1∧p.1≤B)→z.1 - B * l.length≤(bI l z).1∧(bI l z).1≤z.1+B * l.length
  | [],z,_=>by show z.1 - _≤z.1∧z.1≤z.1+_;simp
  | p::r,z,h=>by
    have h1:=w7 r (z.1+p.1,z.2 || !p.2) fun q hq=>h q (by simp[hq])
    have h2:=h p (by simp)
    show _≤(bI r (z.1+p.1,z.2 || !p.2)).1∧_
    rw[dI,Int.natCast_add,Int.mul_add]
    dsimp only at h1
    simp only[Int.cast_ofNat_Int,Int.mul_one]
    show z.1 - (B * r.length+B)≤(bI r (z.1+p.1,z.2 || !p.2)).1∧(bI r (z.1+p.1,z.2 || !p.2)).1≤z.1+(B * r.length+B)
    omega
def lp:Int:=1099511627776+268435456 * 25 * 2000
theorem Ji {left:List (List Bool)} {S:List (List Nm)} {B:Int} (hB:0≤B) (h:∀ r∈S,NB B r) (n:Nat):∀ p∈PC left S n,-B≤p.1∧p.1≤B:=fun p hp=>by
  obtain ⟨i,_,rfl⟩:=bV.1 hp
  exact CM _ _ _ (uh h i) (by dsimp only;omega)
theorem Jj {m:ae} {left:List (List Bool)} {T:List (List Nm)} {B:Int} (hB:0≤B) (h:∀ r∈T,NB B r) (n:Nat):∀ p∈PP m left T n,-B≤p.1∧p.1≤B:=fun p hp=>by
  obtain ⟨i,_,rfl⟩:=bV.1 hp
  exact CM _ _ _ (uh h i) (by dsimp only;omega)
theorem RH (most bg n:Int) (hm:0≤most) (hp:0≤bg):0≤iZ most bg n∧iZ most bg n≤1099511627776:=by
  unfold iZ
  split
  · omega
  · have:=pt (show 0≤n - most by omega) hp
    omega
theorem acZ {m:ae} (hm:VM m) (i:Nat):0≤(m.av.getD i default).most∧0≤(m.av.getD i default).bg:=by
  rcases dG i m.av.length with hi | hi
  · obtain ⟨_,h2,h3,_⟩:=ju (hm.ct _ (az (d:=default) hi))
    exact⟨h2.1,(g7 h3).1⟩
  · rw[ay,dM hi];decide
theorem Jk {m:ae} (hm:VM m) {left:List (List Bool)} (n:Nat):∀ p∈PK m left n,-1099511627776≤p.1∧p.1≤1099511627776:=fun p hp=>by
  obtain ⟨i,_,rfl⟩:=bV.1 hp
  have:=acZ hm i
  have:=RH (m.av.getD i default).most (m.av.getD i default).bg (j' (m.av.getD i default).aA 0 left 0) this.1 this.2
  unfold lO
  dsimp only
  omega
theorem AK (left:List (List Bool)) (S:List (List Nm)) (n:Nat):(PC left S n).length=n:=by simp[PC]
theorem CN (m:ae) (left:List (List Bool)) (S:List (List Nm)) (n:Nat):(PP m left S n).length=n:=by simp[PP]
theorem Fv (m:ae) (left:List (List Bool)) (n:Nat):(PK m left n).length=n:=by simp[PK]
theorem ac0 (a:List Bool) (x:Bool) (b:List Bool):pJ (a++[x]) b=pJ a b++b.map (x && ·):=by unfold pJ;rw[List.flatMap_append];simp
theorem CO (b:List Bool):∀ a:List Bool,(pJ a b).length=a.length * b.length
  | []=>by simp[pJ]
  | x::r=>by
    show ((b.map (x && ·))++pJ r b).length=_
    rw[bU,CO b r,eD,dI,fC];omega
theorem LO.fV {α:Type} {enc:α→List AV} {B:List (Nat × Ob)} {D E:List (Nat × Nat)} {S T:List (List α)} {os ob:List Ob} (h:LO enc B D E S T os) (k:gu os ob):LO enc B D E S T ob :=
  ⟨fun b hb=>⟨k _ _ (h.base b hb).1,(h.base b hb).2⟩,⟨h.rD.len,fun j hj=>⟨k _ _ (h.rD.row j hj).1,(h.rD.row j hj).2⟩⟩,⟨h.rE.len,fun j hj=>⟨k _ _ (h.rE.row j hj).1,(h.rE.row j hj).2⟩⟩,h.nd⟩
theorem gu.trans {a b c:List Ob} (h:gu a b) (k:gu b c):gu a c:=fun i o hi=>k i o (h i o hi)
theorem Fw (b:List Bool):∀ (a:List Bool) (n:Nat),n<a.length * b.length→(pJ a b).getD n false=(a.getD (n / b.length) false && b.getD (n % b.length) false)
  | [],n,h=>by simp at h
  | x::r,n,h=>by
    have hb:0<b.length:=by
      rcases Nat.eq_zero_or_pos b.length with h0 | h0
      · rw[h0] at h;omega
      · exact h0
    show ((b.map (x && ·))++pJ r b).getD n false=_
    rcases dG n b.length with hn | hn
    · rw[Nat.div_eq_of_lt hn,Nat.mod_eq_of_lt hn,fT,ay,List.getElem?_append_left (by simpa using hn),bR,bm hn,ay,bm hn];rfl
    · obtain ⟨k,rfl⟩ :∃k,n=k+b.length:=⟨n - b.length,by omega⟩
      have ih:=Fw b r k (by rw[dI,fC] at h;omega)
      rw[ay,List.getElem?_append_right (by simpa using hn),eD,Nat.add_sub_cancel,← ay,ih,Nat.add_div_right _ hb,Nat.add_mod_right,ep]
def w8 (q:Int × Bool):Nm:=(q.1,!q.2)
theorem RJ (l:List Nm) (s:List Bool):rz (jf l s)=w8 (cY l s (0,false)):=ac1 l s
def vx (m:ae) (left:List (List Bool)) (g:Lg):List (Int × Bool):=PC left g.1 m.cls.length++PP m left g.2 m.ah.length++PK m left m.av.length
theorem RK (a b:List (Int × Bool)) (z:Int × Bool):bI (a++b) z=bI b (bI a z):=by unfold bI;rw[zI]
theorem ac2 (m:ae) (left:List (List Bool)) (g:Lg):nr m left g=if (bI (vx m left g) (0,false)).2=true then 1099511627776 else min (bI (vx m left g) (0,false)).1 1099511627776:=by
  unfold nr vx;rw[RK,RK]
theorem CP:∀ (l:List (Int × Bool)) (n:Int),(bI l (n,true)).2=true
  | [],_=>rfl
  | p::r,n=>CP r _
theorem RL:∀ (l:List (Int × Bool)) (n:Int),(bI l (n,false)).2=true↔∃ p∈l,p.2=false
  | [],_=>by simp[bI]
  | p::r,n=>by
    show (bI r (n+p.1,false || !p.2)).2=true↔_
    cases hp:p.2 with
    | false =>
      simp only[Bool.not_false,Bool.or_true]
      exact⟨fun _=>⟨p,by simp,hp⟩,fun _=>CP r _⟩
    | true =>
      simp only[Bool.not_true,Bool.or_false]
      rw[RL r]
      constructor
      · rintro ⟨q,hq,h⟩;exact⟨q,by simp[hq],h⟩
      · rintro ⟨q,hq,h⟩
        rcases List.mem_cons.1 hq with rfl | hq
        · rw[hp] at h;cases h
        · exact⟨q,hq,h⟩
theorem Jl:∀ (l:List Nm) (s:List Bool),(jf l s).length≤l.length
  | [],s=>by cases s<;>simp[jf]
  | p::r,[]=>by simp[jf]
  | p::r,is::s=>by
    rw[jf,bU,dI]
    have:=Jl r s
    split<;>simp<;>omega
def LE (a b:List Int):Prop:=a.length=b.length∧∀ i,a.getD i 0≤b.getD i 0
theorem LE.refl (a:List Int):LE a a:=⟨rfl,fun _=>c9 _⟩
theorem ui (l:List Int) (n i:Nat) (x:Int):(l.set n x).getD i 0=if n=i∧i<l.length then x else l.getD i 0:=by
  rw[ay,bO,ay]
  by_cases h:n=i
  · subst h
    by_cases h2:n<l.length
    · rw[if_pos rfl,if_pos h2,if_pos ⟨rfl,h2⟩];rfl
    · rw[if_pos rfl,if_neg h2,if_neg (fun h=>h2 h.2),dM (by omega)]
  · rw[if_neg h,if_neg (fun h'=>h h'.1)]
theorem LE.add {a b:List Int} (h:LE a b) {r c d:Int} (hcd:c≤d):LE (ed a r c) (ed b r d):=by
  refine⟨by simp only[ed,bF];exact h.1,fun i=>?_⟩
  rw[ed,ed,ui,ui,h.1]
  have:=h.2 i
  have:=h.2 r.toNat
  split
  · unfold cS;omega
  · exact h.2 i
theorem LE.up {R:Int} {a b:List Int} (h:LE a b) (hb:fj R b) {r c:Int} (hc:0≤c):LE a (ed b r c):=by
  refine⟨by simp only[ed,bF];exact h.1,fun i=>?_⟩
  rw[ed,ui]
  have h1:=h.2 i
  have h2:=hb.get i
  unfold aS at h2
  split
  · rename_i hh
    rw[hh.1];unfold cS;omega
  · exact h1
theorem RM:∀ (l:List (Int × Int)) {a b:List Int},LE a b→LE (nu l a) (nu l b)
  | [],_,_,h=>h
  | c::r,_,_,h=>RM r (h.add (c9 _))
theorem RN {R:Int}:∀ (l:List (Int × Int)) {a b:List Int},LE a b→fj R b→(∀ c∈l,fK c.2=true)→LE a (nu l b)
  | [],_,_,h,_,_=>h
  | c::r,_,_,h,hb,hp=>by
    have:=g7 (hp c (by simp))
    exact RN r (h.up hb this.1) (hb.add this) fun x hx=>hp x (by simp[hx])
def Up (p q:List Int):Prop:=p.length=q.length∧∀ j,p.getD j 0=q.getD j 0∨p.getD j 0<0
theorem ac3 {m:ae} (hm:VM m) (i:Nat) (o:Int):∀ c∈((m.cls.getD i default).getD o.toNat default).ch,fK c.2=true:=by
  intro c hc
  rcases dG i m.cls.length with hi | hi
  · have hl:=az (d:=(default:List cB)) hi
    generalize m.cls.getD i default=l at *
    rcases dG o.toNat l.length with ho | ho
    · exact (vv (hm.mf l hl _ (az ho)) c hc).2
    · rw[show l.getD o.toNat default=default by rw[ay,dM ho];rfl] at hc
      exact absurd hc (by rw[Fx];simp)
  · rw[show m.cls.getD i default=[] by rw[ay,dM hi];rfl] at hc
    exact absurd hc (by rw[List.getD_nil,Fx];simp)
theorem RO {m:ae} (hm:VM m):∀ (p q:List Int) (i:Nat) (a b:List Int),p.length=q.length→(∀ j,p.getD j 0=q.getD j 0∨p.getD j 0<0)→LE a b→fj m.rules b→LE (j8 m i p a) (j8 m i q b)
  | [],[],_,_,_,_,_,h,_=>h
  | [],_::_,_,_,_,hl,_,_,_=>by simp at hl
  | _::_,[],_,_,_,hl,_,_,_=>by simp at hl
  | o::p,o'::q,i,a,b,hl,hj,h,hb=>by
    have aC:fj m.rules (j8 m i [o'] b):=Fy hm _ _ _ hb
    rw[j8,j8] at aC
    rw[j8,j8]
    refine RO hm p q (i+1) _ _ (by simpa using hl) (fun j=>?_) ?_ aC
    · have:=hj (j+1)
      rwa [ep,ep] at this
    · have h0:=hj 0
      rw[fT,fT] at h0
      rcases h0 with h0 | h0
      · subst h0
        split
        · exact h
        · exact RM _ h
      · rw[if_pos h0]
        split
        · exact h
        · exact RN _ h hb (ac3 hm i o')
theorem RP {m:ae} {p q:List Int} (hu:Up p q):∀ (l:List Pr) (a b:List Int),(∀ x∈l,eG m x=true)→LE a b→fj m.rules b→LE (lM m p l a) (lM m q l b)
  | [],_,_,_,h,_=>h
  | x::r,a,b,hp,h,hb=>by
    have he:=vo (hp x (by simp)) (q.getD x.fst.toNat 0) (q.getD x.snd.toNat 0)
    rw[lM,lM]
    refine RP hu r _ _ (fun y hy=>hp y (by simp[hy])) ?_ ?_
    · by_cases hc:0≤p.getD x.fst.toNat 0∧0≤p.getD x.snd.toNat 0
      · have h1:p.getD x.fst.toNat 0=q.getD x.fst.toNat 0:=(hu.2 _).resolve_right (by omega)
        have h2:p.getD x.snd.toNat 0=q.getD x.snd.toNat 0:=(hu.2 _).resolve_right (by omega)
        rw[if_pos hc,if_pos (by rw[← h1,← h2];exact hc),h1,h2]
        exact h.add (c9 _)
      · rw[if_neg hc]
        split
        · exact h.up hb he.1
        · exact h
    · split
      · exact hb.add he
      · exact hb
theorem RQ {m:ae} {p q:List Int} (hu:Up p q):∀ (l:List Ld) (n k:Int),(∀ x∈l,ez m x.cls x.opt=true∧1≤x.wt∧x.wt≤1000)→n≤k→dX p l n≤dX q l k
  | [],_,_,_,h=>h
  | x::r,n,k,hp,h=>by
    have hx:=hp x (by simp)
    have ho:=(cV.1 hx.1).2.2.1
    rw[dX,dX]
    refine RQ (m:=m) hu r _ _ (fun y hy=>hp y (by simp[hy])) ?_
    rcases hu.2 x.cls.toNat with h1 | h1
    · rw[h1];split<;>omega
    · rw[if_neg (by omega)];split<;>omega
theorem RS {most bg s t:Int} (hp:0≤bg) (h:s≤t):iZ most bg s≤iZ most bg t:=by
  unfold iZ
  have h1:(s - most) * bg≤(t - most) * bg:=Int.mul_le_mul_of_nonneg_right (by omega) hp
  split
  · split
    · exact c9 _
    · have:0≤(t - most) * bg:=pt (by omega) hp
      omega
  · rw[if_neg (by omega)];omega
theorem RT {m:ae} {p q:List Int} (hu:Up p q):∀ (l:List Ct) (a b:List Int),(∀ x∈l,fP m x=true)→LE a b→LE (lN p l a) (lN q l b)
  | [],_,_,_,h=>h
  | x::r,a,b,hp,h=>by
    have hx:=ju (hp x (by simp))
    have hw:=kF hx.2.2.2
    rw[lN,lN]
    exact RT (m:=m) hu r _ _ (fun y hy=>hp y (by simp[hy])) (h.add (RS (g7 hx.2.2.1).1 (RQ (m:=m) hu _ _ _ hw (c9 _))))
theorem ac4 {m:ae} (hm:VM m) {p q:List Int} (hu:Up p q):LE (gZ m p) (gZ m q):=by
  have h0:=fj.rep hm.mP.1
  refine RT hu _ _ _ hm.ct (RP hu _ _ _ (fY hm.pr) (RO hm _ _ _ _ _ hu.1 hu.2 (LE.refl _) h0) (Fy hm _ _ _ h0))
theorem RU:∀ {a b:List Int},a.length=b.length→(∀ i,a.getD i 0≤b.getD i 0)→g9 a≤g9 b
  | [],[],_,_=>c9 _
  | [],_::_,h,_=>by simp at h
  | _::_,[],h,_=>by simp at h
  | x::a,y::b,h,hi=>by
    have h0:=hi 0
    rw[fT,fT] at h0
    have:=RU (a:=a) (b:=b) (by simpa using h) fun i=>by
      have:=hi (i+1)
      rwa [ep,ep] at this
    simp only[g9];omega
theorem ac5 {m:ae} (hm:VM m) {p q:List Int} (hu:Up p q):gY (gZ m p) 0≤gY (gZ m q) 0:=by
  have h:=ac4 hm hu
  rw[CH (AD hm p).2 (by unfold aS;decide),CH (AD hm q).2 (by unfold aS;decide)]
  have:=RU h.1 h.2
  omega
theorem Up.set {p:List Int} {c:Nat} (o:Int) (h:p.getD c 0 = -1):Up p (p.set c o):=by
  refine⟨by simp,fun j=>?_⟩
  rw[ui]
  split
  · rename_i hh
    rw[← hh.1,h];omega
  · exact .inl rfl
theorem PM.set {m:ae} {p:List Int} (h:PM m p) {c:Nat} {o:Int} (ho:o = -1∨ez m (c:Nat) o=true):PM m (p.set c o):=by
  refine⟨by rw[bF];exact h.len,fun j hj=>?_⟩
  rw[bF] at hj
  rw[ui]
  split
  · rename_i hh
    rw[← hh.1];exact ho
  · exact h.get j hj
structure Sat (R:Int) (out:List Int) (v:Int):Prop where
  ok:fj R out
  v0:0≤v
  eq:min (g9 out) 1099511627776=min v 1099511627776
theorem RV:∀ (l:List Int) (i:Nat) (x:Int),i<l.length→g9 (l.set i x)=g9 l - l.getD i 0+x
  | [],i,x,h=>by simp at h
  | y::r,0,x,_=>by simp only[List.set_cons_zero,g9,fT];omega
  | y::r,i+1,x,h=>by
    have:=RV r i x (by simpa using h)
    simp only[List.set_cons_succ,g9,ep];omega
theorem Sat.add {R:Int} {out:List Int} {v r d:Int} (h:Sat R out v) (hr:0≤r∧r<R) (hd:aS d):Sat R (ed out r d) (v+d):=by
  have hlen:=h.ok.1
  have hi:r.toNat<out.length:=by omega
  have hs:=I6 h.ok.2 _ (az (d:=(0:Int)) hi)
  have k9:=RV out r.toNat (cS (out.getD r.toNat 0) d) hi
  have hg:=h.ok.get r.toNat
  have he:=h.eq
  have hv:=h.v0
  unfold aS at hg
  have jy:=hd
  unfold aS at jy
  refine⟨h.ok.add hd,by omega,?_⟩
  unfold ed
  rw[k9]
  unfold cS
  omega
theorem Sat.le {R:Int} {out:List Int} {v w:Int} (h:Sat R out v) (hw:0≤w) (e:min v 1099511627776=min w 1099511627776):Sat R out w:=⟨h.ok,hw,h.eq.trans e⟩
theorem Jb {R:Int}:∀ (l:List (Int × Int)) (out:List Int) (v n:Int),(∀ c∈l,iP R c.1=true∧fK c.2=true)→0≤v→aS n→Sat R out (v+n)→Sat R (nu l out) (v+(l.map (·.2)).foldl cS n)
  | [],out,v,n,_,_,_,h=>h
  | c::r,out,v,n,hc,hv,cy,h=>by
    rw[nu]
    have h1:=hc c (by simp)
    have hr:=h1.1
    rw[iP,decide_eq_true_eq] at hr
    have hp:=g7 h1.2
    have h2:=h.add hr hp
    refine Jb r _ v (cS n c.2) (fun x hx=>hc x (by simp[hx])) hv (oT cy hp) (h2.le ?_ ?_)
    · have:=oT cy hp;unfold aS at this;omega
    · unfold aS at hp cy;unfold cS;omega
theorem RW {m:ae} (hm:VM m):∀ (plan:List Int) (i:Nat) (out:List Int) (v:Int),(∀ j,j<plan.length→ez m ((i+j:Nat):Int) (plan.getD j 0)=true) →
    Sat m.rules out v→Sat m.rules (j8 m i plan out) (v+bw (fun j=>qo ((m.cls.getD (i+j) default).getD (plan.getD j 0).toNat default)) plan.length)
  | [],i,out,v,_,h=>by show Sat m.rules out (v+0);rw[L8];exact h
  | o::r,i,out,v,hg,h=>by
    rw[j8]
    have h0:=hg 0 (by simp)
    rw[fT,gU] at h0
    obtain ⟨b1,b2,b3,b4⟩:=cV.1 h0
    rw[Int.toNat_natCast] at b4
    rw[if_neg (by omega)]
    have hl:=az (l:=m.cls) (i:=i) (d:=default) (by omega)
    have ho:=az (l:=m.cls.getD i default) (i:=o.toNat) (d:=default) (by omega)
    have ej:=hm.mf _ hl _ ho
    have h1:=Jb _ out v 0 (vv ej) h.v0 (by unfold aS;decide) (by rw[L8];exact h)
    have h2:=RW hm r (i+1) _ _ (fun j hj=>by
      have:=hg (j+1) (by simpa using hj)
      rwa [ep,show i+(j+1)=i+1+j by omega] at this) h1
    rw[dI,yS]
    simp only[fT,ep,gU]
    rw[← Int.add_assoc]
    rw[jz (g:=fun j=>qo ((m.cls.getD (i+(j+1)) default).getD (r.getD j 0).toNat default)) r.length fun j _=>by rw[show i+1+j=i+(j+1) by omega]] at h2
    exact h2
def mg (m:ae) (plan:List Int) (p:Pr):Int:=jP m p (plan.getD p.fst.toNat 0) (plan.getD p.snd.toNat 0)
theorem RX {m:ae} {plan:List Int} (hp:FP m plan):∀ (l:List Pr) (out:List Int) (v:Int),(∀ p∈l,eG m p=true)→Sat m.rules out v →
    Sat m.rules (lM m plan l out) (v+bw (fun i=>mg m plan (l.getD i default)) l.length)
  | [],out,v,_,h=>by show Sat m.rules out (v+0);rw[L8];exact h
  | p::r,out,v,hg,h=>by
    rw[lM]
    have ca:=hg p (by simp)
    obtain ⟨q1,q2,q3,q4,q5⟩:=iY ca
    have b9:=hp.len
    have g1:=hp.get p.fst.toNat (by omega)
    have g2:=hp.get p.snd.toNat (by omega)
    have a1:=cV.1 g1
    have a2:=cV.1 g2
    rw[if_pos ⟨a1.2.2.1,a2.2.2.1⟩]
    have h2:=RX hp r _ _ (fun x hx=>hg x (by simp[hx])) (h.add q1 (vo ca (plan.getD p.fst.toNat 0) (plan.getD p.snd.toNat 0)))
    rw[dI,yS]
    simp only[fT,ep]
    rw[← Int.add_assoc]
    exact h2
def j7 (plan:List Int) (c:Ct):Int:=iZ c.most c.bg (dX plan c.aA 0)
theorem RY {m:ae} {plan:List Int}:∀ (l:List Ct) (out:List Int) (v:Int),(∀ c∈l,fP m c=true)→Sat m.rules out v →
    Sat m.rules (lN plan l out) (v+bw (fun i=>j7 plan (l.getD i default)) l.length)
  | [],out,v,_,h=>by show Sat m.rules out (v+0);rw[L8];exact h
  | c::r,out,v,hg,h=>by
    rw[lN]
    obtain ⟨q1,q2,q3,q4⟩:=ju (hg c (by simp))
    have h2:=RY (plan:=plan) r _ _ (fun x hx=>hg x (by simp[hx])) (h.add q1 (wR (most:=c.most) (sum:=dX plan c.aA 0) (g7 q3)))
    rw[dI,yS]
    simp only[fT,ep]
    rw[← Int.add_assoc]
    exact h2
def pF (m:ae) (plan:List Int) (j:Nat):Int:=qo ((m.cls.getD j default).getD (plan.getD j 0).toNat default)
theorem IJ {m:ae} {plan:List Int} (hv:VM m) (hp:FP m plan):gY (gZ m plan) 0 =
    min (bw (pF m plan) m.cls.length+bw (fun i=>mg m plan (m.ah.getD i default)) m.ah.length+bw (fun i=>j7 plan (m.av.getD i default)) m.av.length) 1099511627776:=by
  have h0:Sat m.rules (aW m.rules.toNat 0) 0:=by
    refine⟨fj.rep hv.mP.1,by decide,?_⟩
    have:∀ k,g9 (aW k 0)=0:=by
      intro k
      induction k with
      | zero=>rfl
      | succ k ih=>rw[List.replicate_succ,g9,ih];rfl
    rw[this]
  have h1:=RW hv plan 0 _ _ (fun j hj=>by rw[eK];exact hp.get j hj) h0
  have h2:=RX hp m.ah _ _ (fY hv.pr) h1
  have h3:=RY (plan:=plan) m.av _ _ hv.ct h2
  have uf:=CH (AD hv plan).2 (n:=0) (by unfold aS;decide)
  have he:=h3.eq
  change min (g9 (gZ m plan)) _=_ at he
  rw[uf,tq,he,tq,hp.len]
  simp only[eK]
  rfl
def Jm (fV:List Bool) (r:Int):Bool:=fV.getD r.toNat false
def Cut (fV:List Bool) (a b:List Int):Prop:=b.length=a.length∧∀ i:Nat,b.getD i 0=if Jm fV i=true then a.getD i 0 else 0
theorem Cut.add {fV:List Bool} {a b:List Int} (h:Cut fV a b) {r c:Int} (hr:0≤r):Cut fV (ed a r c) (if Jm fV r=true then ed b r c else b):=by
  have gH:((r.toNat:Nat):Int)=r:=Int.toNat_of_nonneg hr
  refine⟨by split<;>simp only[ed,bF]<;>exact h.1,fun i=>?_⟩
  have hi:=h.2 i
  have tx:=h.2 r.toNat
  rw[gH] at tx
  by_cases hk:Jm fV r=true
  · rw[if_pos hk]
    rw[if_pos hk] at tx
    rw[ed,ed,ui,ui,tx,h.1]
    by_cases pz:r.toNat=i∧i<a.length
    · rw[if_pos pz,if_pos pz,if_pos]
      rw[← pz.1,gH];exact hk
    · rw[if_neg pz,if_neg pz];exact hi
  · rw[if_neg hk,ed,ui]
    by_cases pz:r.toNat=i∧i<a.length
    · rw[if_pos pz]
      rw[← pz.1,gH,if_neg hk] at hi
      rw[← pz.1,gH,if_neg hk];exact hi
    · rw[if_neg pz];exact hi
theorem ac6 {a b c:Pr} (h:nw a b<0) (k:nw b c<0):nw a c<0:=by
  rw[Jn] at *;omega
theorem ac7 {m:ae} {q q':Option Pr} (h:∀ y,q'=some y→∃ x,q=some x∧(∀ c,nw x c<0→nw y c<0)):∀ {l:List Pr},fQ m q l=true→fQ m q' l=true
  | [],_=>by cases q'<;>rfl
  | c::r,hl=>by
    rw[fQ.eq_def] at hl ⊢
    simp only[a7] at hl ⊢
    refine⟨⟨hl.1.1,?_⟩,hl.2⟩
    cases q' with
    | none=>rfl
    | some y =>
      obtain ⟨x,rfl,hx⟩:=h y rfl
      have:=hl.1.2
      simp only[decide_eq_true_eq] at this ⊢;exact hx c this
theorem Jo {m:ae} (p:Pr→Bool):∀ {l:List Pr} {q:Option Pr},fQ m q l=true→fQ m q (l.filter p)=true
  | [],q,h=>h
  | c::r,q,h=>by
    rw[fQ.eq_def] at h
    simp only[a7] at h
    rw[List.filter_cons]
    split
    · rw[fQ.eq_def]
      simp only[a7]
      exact⟨h.1,Jo p h.2⟩
    · refine ac7 (q:=some c) (fun y hy=>⟨c,rfl,fun d hd=>?_⟩) (Jo p h.2)
      subst hy
      have:=h.1.2
      simp only[decide_eq_true_eq] at this
      exact ac6 this hd
end T

