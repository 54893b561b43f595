import Derived.Test.YtdipcmigdbnheaaGreatX09
import Derived.Test.YtdipcmigdbnheaaGreatX14
set_option linter.unusedVariables false
set_option linter.unusedSimpArgs false
set_option linter.unnecessarySimpa false
set_option linter.unusedSectionVars false
set_option maxHeartbeats 64000000
set_option maxRecDepth 20000
open Int renaming le_refl→dE,mul_le_mul_of_nonneg_right→Fh,toNat_of_nonneg→po,add_zero→xQ,toNat_natCast→gD,zero_add→wg,add_mul→JT,one_mul→Fq,lt_or_le→Ca,eq_ofNat_of_zero_le→JU
open List renaming getD_eq_getElem?_getD→aA,getElem?_set→b6,getElem?_eq_none→eS,length_set→bI,getD_cons_zero→gb,getD_cons_succ→eJ,filter_cons→qX,getElem?_map→cm,length_map→ey,replicate→bY,mem_map→ca,length_filter_le→xP,getElem?_eq_getElem→bX,length_cons→dH,mem_cons→cu,getElem?_set_ne→bm,range→aN,map_cons→dO,range'→mn,drop_eq_nil_of_le→cB,range'_succ→uJ,drop_zero→uO
open Nat renaming lt_or_ge→eF,div_eq_of_lt→JG,mod_eq_of_lt→B6,add_mul→fj,add_zero→jr,zero_add→fi,mul_comm→pZ,mul_add_mod→JF,one_mul→pX,zero_mul→zD
open Bool renaming and_eq_true→bk,false_eq_true→jF
open Option renaming getD_some→mP,map_some→gf,some→cY
open Go Go.Am
namespace T
def LE (a b:List Int):Prop:=a.length=b.length∧∀ i,a.getD i 0≤b.getD i 0
theorem LE.refl (a:List Int):LE a a:=⟨rfl,fun _=>dE _⟩
theorem vI (l:List Int) (n i:Nat) (x:Int):(l.set n x).getD i 0=if n=i∧i<l.length then x else l.getD i 0:=by
  rw[aA,b6,aA]
  by_cases h:n=i
  · subst h
    by_cases h2:n<l.length
    · rw[if_pos rfl,if_pos h2,if_pos ⟨rfl,h2⟩];rfl
    · rw[if_pos rfl,if_neg h2,if_neg (fun h=>h2 h.2),eS (by omega)]
  · rw[if_neg h,if_neg (fun h'=>h h'.1)]
theorem LE.add {a b:List Int} (h:LE a b) {r c d:Int} (Oy:c≤d):LE (ef a r c) (ef b r d):=by
  refine⟨by simp only[ef,bI];exact h.1,fun i=>?_⟩
  rw[ef,ef,vI,vI,h.1]
  have:=h.2 i
  have:=h.2 r.toNat
  split
  · unfold dw;omega
  · exact h.2 i
theorem LE.up {R:Int} {a b:List Int} (h:LE a b) (hb:gR R b) {r c:Int} (hc:0≤c):LE a (ef b r c):=by
  refine⟨by simp only[ef,bI];exact h.1,fun i=>?_⟩
  rw[ef,vI]
  have h1:=h.2 i
  have h2:=hb.get i
  unfold bF at h2
  split
  · rename_i hh
    rw[hh.1];unfold dw;omega
  · exact h1
def Up (p q:List Int):Prop:=p.length=q.length∧∀ j,p.getD j 0=q.getD j 0∨p.getD j 0<0
theorem abf {most bL s t:Int} (hp:0≤bL) (h:s≤t):jk most bL s≤jk most bL t:=by
  unfold jk
  have h1:(s - most) * bL≤(t - most) * bL:=Fh (by omega) hp
  split
  · split
    · exact dE _
    · have:0≤(t - most) * bL:=Int.mul_nonneg (by omega) hp
      omega
  · rw[if_neg (by omega)];omega
theorem R5:∀ {a b:List Int},a.length=b.length→(∀ i,a.getD i 0≤b.getD i 0)→iV a≤iV b
  | [],[],_,_=>dE _
  | [],_::_,h,_=>by simp at h
  | _::_,[],h,_=>by simp at h
  | x::a,y::b,h,hi=>by
    have h0:=hi 0
    rw[gb,gb] at h0
    have:=R5 (a:=a) (b:=b) (by simpa using h) fun i=>by
      have:=hi (i+1)
      rwa [eJ,eJ] at this
    simp only[iV];omega
theorem Up.set {p:List Int} {c:Nat} (o:Int) (h:p.getD c 0 = -1):Up p (p.set c o):=by
  refine⟨by simp,fun j=>?_⟩
  rw[vI]
  split
  · rename_i hh
    rw[← hh.1,h];omega
  · exact .inl rfl
theorem PM.set {m:aj} {p:List Int} (h:PM m p) {c:Nat} {o:Int} (ho:o = -1∨g7 m (c:Nat) o=true):PM m (p.set c o):=by
  refine⟨by rw[bI];exact h.len,fun j hj=>?_⟩
  rw[bI] at hj
  rw[vI]
  split
  · rename_i hh
    rw[← hh.1];exact ho
  · exact h.get j hj
def du (ax:List Bool) (r:Int):Bool:=ax.getD r.toNat false
def jM (ax:List Bool) (o:bx):bx:=⟨o.wk,o.day,o.st,o.len,o.room,o.ch.filter fun c=>du ax c.1⟩
def gv (m:aj) (ax:List Bool):aj :=
  ⟨m.cls.map fun l=>l.map (jM ax),m.ae.filter fun p=>du ax p.aV,m.au.filter fun c=>du ax c.aV,m.rules⟩
def D0:aj:=⟨[],[],[],0⟩
def qC (m:aj) (ax:List Bool):aj × Int :=
  if dz m≠0 then (D0,dz m) else if (ax.length:Int)≠m.rules then (D0,3) else (gv m ax,0)
def Cut (ax:List Bool) (a b:List Int):Prop:=b.length=a.length∧∀ i:Nat,b.getD i 0=if du ax i=true then a.getD i 0 else 0
theorem Cut.add {ax:List Bool} {a b:List Int} (h:Cut ax a b) {r c:Int} (hr:0≤r):Cut ax (ef a r c) (if du ax r=true then ef b r c else b):=by
  have cd:((r.toNat:Nat):Int)=r:=po hr
  refine⟨by split<;>simp only[ef,bI]<;>exact h.1,fun i=>?_⟩
  have hi:=h.2 i
  have qY:=h.2 r.toNat
  rw[cd] at qY
  by_cases hk:du ax r=true
  · rw[if_pos hk]
    rw[if_pos hk] at qY
    rw[ef,ef,vI,vI,qY,h.1]
    by_cases lY:r.toNat=i∧i<a.length
    · rw[if_pos lY,if_pos lY,if_pos]
      rw[← lY.1,cd];exact hk
    · rw[if_neg lY,if_neg lY];exact hi
  · rw[if_neg hk,ef,vI]
    by_cases lY:r.toNat=i∧i<a.length
    · rw[if_pos lY]
      rw[← lY.1,cd,if_neg hk] at hi
      rw[← lY.1,cd,if_neg hk];exact hi
    · rw[if_neg lY];exact hi
theorem HB {ax:List Bool}:∀ (l:List (Int × Int)) {a b:List Int},Cut ax a b→(∀ c∈l,0≤c.1)→Cut ax (ng l a) (ng (l.filter fun c=>du ax c.1) b)
  | [],_,_,h,_=>h
  | c::r,a,b,h,hc=>by
    have h1:=h.add (c:=c.2) (hc c (by simp))
    rw[qX]
    by_cases hk:du ax c.1=true
    · rw[if_pos hk] at h1 ⊢
      exact HB r h1 fun x hx=>hc x (by simp[hx])
    · rw[if_neg hk] at h1 ⊢
      exact HB r h1 fun x hx=>hc x (by simp[hx])
theorem abg (ax:List Bool):jM ax default=default:=rfl
theorem HC {α β:Type} (f:α→β) (l:List α) (i:Nat) (a:α) (b:β) (h:f a=b):(l.map f).getD i b=f (l.getD i a):=by
  rw[aA,aA,cm]
  cases l[i]? with
  | none=>exact h.symm
  | some x=>rfl
theorem HD (m:aj) (ax:List Bool) (i:Nat):(gv m ax).cls.getD i default=(m.cls.getD i default).map (jM ax):=HC _ _ _ _ _ rfl
theorem abh (m:aj) (ax:List Bool) (i k:Nat):((gv m ax).cls.getD i default).getD k default=jM ax ((m.cls.getD i default).getD k default):=by
  rw[HD];exact HC _ _ _ _ _ (abg ax)
theorem abi {m:aj} (hm:VM m) (i:Nat) (k:Nat):∀ c∈((m.cls.getD i default).getD k default).ch,0≤c.1:=by
  intro c hc
  rcases eF i m.cls.length with hi | hi
  · have hl:=aC (d:=(default:List bx)) hi
    generalize m.cls.getD i default=l at *
    rcases eF k l.length with ho | ho
    · have:=(uj (hm.kI l hl _ (aC ho)) c hc).1
      rw[iu,decide_eq_true_eq] at this;exact this.1
    · rw[show l.getD k default=default by rw[aA,eS ho];rfl] at hc
      exact absurd hc (by rw[DW];simp)
  · rw[show m.cls.getD i default=[] by rw[aA,eS hi];rfl] at hc
    exact absurd hc (by rw[List.getD_nil,DW];simp)
theorem R7 {m:aj} (hm:VM m) {ax:List Bool}:∀ (plan:List Int) (i:Nat) {a b:List Int},Cut ax a b→Cut ax (mg m i plan a) (mg (gv m ax) i plan b)
  | [],_,_,_,h=>h
  | o::r,i,a,b,h=>by
    rw[mg,mg]
    refine R7 hm r (i+1) ?_
    split
    · exact h
    · rw[abh]
      exact HB _ h (abi hm i o.toNat)
theorem abj (m:aj) (ax:List Bool) (p:Pr) (x y:Int):lk (gv m ax) p x y=lk m p x y:=by
  unfold lk
  rw[HD,ey]
theorem A3 {m:aj} {ax:List Bool} {plan:List Int}:∀ (l:List Pr) {a b:List Int},(∀ p∈l,0≤p.aV)→Cut ax a b→Cut ax (lL m plan l a) (lL (gv m ax) plan (l.filter fun p=>du ax p.aV) b)
  | [],_,_,_,h=>h
  | p::r,a,b,hp,h=>by
    have hr:∀ q∈r,0≤q.aV:=fun q hq=>hp q (by simp[hq])
    rw[qX,lL]
    by_cases hc:0≤plan.getD p.fst.toNat 0∧0≤plan.getD p.snd.toNat 0
    · rw[if_pos hc]
      have h1:=h.add (c:=lk m p (plan.getD p.fst.toNat 0) (plan.getD p.snd.toNat 0)) (hp p (by simp))
      by_cases hk:du ax p.aV=true
      · rw[if_pos hk] at h1 ⊢
        rw[lL,if_pos hc,abj]
        exact A3 r hr h1
      · rw[if_neg hk] at h1 ⊢
        exact A3 r hr h1
    · rw[if_neg hc]
      split
      · rw[lL,if_neg hc];exact A3 r hr h
      · exact A3 r hr h
theorem HE {ax:List Bool} {plan:List Int}:∀ (l:List Ct) {a b:List Int},(∀ c∈l,0≤c.aV)→Cut ax a b→Cut ax (mh plan l a) (mh plan (l.filter fun c=>du ax c.aV) b)
  | [],_,_,_,h=>h
  | c::r,a,b,hp,h=>by
    have hr:∀ q∈r,0≤q.aV:=fun q hq=>hp q (by simp[hq])
    have h1:=h.add (c:=jk c.most c.bL (iU plan c.aS 0)) (hp c (by simp))
    rw[qX,mh]
    by_cases hk:du ax c.aV=true
    · rw[if_pos hk] at h1 ⊢
      rw[mh]
      exact HE r hr h1
    · rw[if_neg hk] at h1 ⊢
      exact HE r hr h1
theorem abk {m:aj} (hm:VM m) (ax:List Bool) (plan:List Int):Cut ax (gQ m plan) (gQ (gv m ax) plan):=by
  have h0:Cut ax (bY m.rules.toNat 0) (bY m.rules.toNat 0):=⟨rfl,fun i=>by
    have:(bY m.rules.toNat (0:Int)).getD i 0=0:=by
      rw[aA,List.getElem?_replicate];split<;>rfl
    rw[this];split<;>rfl⟩
  exact HE _ (fun c hc=>(lj (hm.ct c hc)).1.1) (A3 _ (fun p hp=>(kJ (jh hm.pr p hp)).1.1) (R7 hm _ _ h0))
theorem abl {R:Int} {q q':Option (Int × Int)} (h:∀ y,q'=some y→∃ x,q=some x∧y.1≤x.1):∀ {l:List (Int × Int)},dj R q l=true→dj R q' l=true
  | [],_=>by cases q'<;>rfl
  | c::r,hl=>by
    rw[dj.eq_def] at hl ⊢
    simp only[bk] at hl ⊢
    refine⟨⟨hl.1.1,?_⟩,hl.2⟩
    cases q' with
    | none=>rfl
    | some y =>
      obtain ⟨x,rfl,hx⟩:=h y rfl
      have:=hl.1.2
      simp only[decide_eq_true_eq] at this ⊢;omega
theorem D1 {R:Int} (p:Int × Int→Bool):∀ {l:List (Int × Int)} {q:Option (Int × Int)},dj R q l=true→dj R q (l.filter p)=true
  | [],q,h=>h
  | c::r,q,h=>by
    have h0:=h
    rw[dj.eq_def] at h
    simp only[bk] at h
    rw[qX]
    split
    · rw[dj.eq_def]
      simp only[bk]
      exact⟨h.1,D1 p h.2⟩
    · refine abl (q:=some c) (fun y hy=>⟨c,rfl,?_⟩) (D1 p h.2)
      subst hy
      have:=h.1.2
      simp only[decide_eq_true_eq] at this;omega
theorem abm {a b c:Pr} (h:mJ a b<0) (k:mJ b c<0):mJ a c<0:=by
  rw[Ho] at *;omega
theorem abn {m:aj} {q q':Option Pr} (h:∀ y,q'=some y→∃ x,q=some x∧(∀ c,mJ x c<0→mJ y c<0)):∀ {l:List Pr},ee m q l=true→ee m q' l=true
  | [],_=>by cases q'<;>rfl
  | c::r,hl=>by
    rw[ee.eq_def] at hl ⊢
    simp only[bk] at hl ⊢
    refine⟨⟨hl.1.1,?_⟩,hl.2⟩
    cases q' with
    | none=>rfl
    | some y =>
      obtain ⟨x,rfl,hx⟩:=h y rfl
      have:=hl.1.2
      simp only[decide_eq_true_eq] at this ⊢;exact hx c this
theorem D2 {m:aj} (p:Pr→Bool):∀ {l:List Pr} {q:Option Pr},ee m q l=true→ee m q (l.filter p)=true
  | [],q,h=>h
  | c::r,q,h=>by
    rw[ee.eq_def] at h
    simp only[bk] at h
    rw[qX]
    split
    · rw[ee.eq_def]
      simp only[bk]
      exact⟨h.1,D2 p h.2⟩
    · refine abn (q:=some c) (fun y hy=>⟨c,rfl,fun d hd=>?_⟩) (D2 p h.2)
      subst hy
      have:=h.1.2
      simp only[decide_eq_true_eq] at this
      exact abm this hd
theorem HF (m:aj) (ax:List Bool) (i:Nat):((gv m ax).cls.getD i default).length=(m.cls.getD i default).length:=by rw[HD,ey]
theorem A4 (m:aj) (ax:List Bool):(gv m ax).cls.length=m.cls.length:=by unfold gv;simp
theorem HG (m:aj) (ax:List Bool) (c o:Int):g7 (gv m ax) c o=g7 m c o:=by
  unfold g7;rw[A4,HF]
theorem abo (m:aj) (ax:List Bool) (p:Pr):eW (gv m ax) p=eW m p:=by
  unfold eW;rw[A4,HF,HF];rfl
theorem R8 (m:aj) (ax:List Bool):∀ (l:List Pr) (q:Option Pr),ee (gv m ax) q l=ee m q l
  | [],_=>rfl
  | x::r,q=>by rw[ee.eq_def,ee.eq_def];simp only[abo,R8 m ax r]
theorem R9 (m:aj) (ax:List Bool):∀ (l:List Ld) (q:Option Ld),dx (gv m ax) q l=dx m q l
  | [],_=>rfl
  | x::r,q=>by rw[dx.eq_def,dx.eq_def];simp only[HG,R9 m ax r]
theorem abp (m:aj) (ax:List Bool) (c:Ct):fY (gv m ax) c=fY m c:=by
  unfold fY;rw[R9];rfl
theorem ud {m:aj} (hm:VM m) (ax:List Bool):VM (gv m ax):=by
  refine⟨by rw[A4];exact hm.cls,fun l hl=>?_,?_,?_,hm.im,fun l hl o ho=>?_,?_,fun c hc=>?_⟩
  · simp only[gv,ca] at hl
    obtain ⟨l',h',rfl⟩:=hl
    simpa using hm.opt l' h'
  · have:=xP (fun p:Pr=>du ax p.aV) m.ae
    have:=hm.ae
    simp only[gv];omega
  · have:=xP (fun p:Ct=>du ax p.aV) m.au
    have:=hm.au
    simp only[gv];omega
  · simp only[gv,ca] at hl
    obtain ⟨l',h',rfl⟩:=hl
    simp only[ca] at ho
    obtain ⟨o',cR,rfl⟩:=ho
    exact D1 _ (hm.kI l' h' o' cR)
  · rw[R8];exact D2 _ hm.pr
  · rw[abp]
    exact hm.ct c (List.mem_filter.1 hc).1
theorem Cut.total {m:aj} (hm:VM m) (ax:List Bool) (plan:List Int):iF (gQ (gv m ax) plan) 0≤iF (gQ m plan) 0:=by
  have h:=abk hm ax plan
  have h1:=DX hm plan
  have h2:=DX (ud hm ax) plan
  rw[DY h1.2 (by unfold bF;decide),DY h2.2 (by unfold bF;decide)]
  have:=R5 (a:=gQ (gv m ax) plan) (b:=gQ m plan) h.1 fun i=>by
    rw[h.2 i]
    have:=h1.get i
    unfold bF at this
    split<;>omega
  omega
theorem LO.ax {α:Type} {enc:α→List AV} {B:List (Nat × Ob)} {D E:List (Nat × Nat)} {S T:List (List α)} {os ob:List Ob} (h:LO enc B D E S T os) (k:ga os ob):LO enc B D E S T ob :=
  ⟨fun b hb=>⟨k _ _ (h.base b hb).1,(h.base b hb).2⟩,⟨h.rD.len,fun j hj=>⟨k _ _ (h.rD.row j hj).1,(h.rD.row j hj).2⟩⟩,⟨h.rE.len,fun j hj=>⟨k _ _ (h.rE.row j hj).1,(h.rE.row j hj).2⟩⟩,h.nd⟩
theorem ga.trans {a b c:List Ob} (h:ga a b) (k:ga b c):ga a c:=fun i o hi=>k i o (h i o hi)
theorem D3 (b:List Bool):∀ (a:List Bool) (n:Nat),n<a.length * b.length→(uu a b).getD n false=(a.getD (n / b.length) false && b.getD (n % b.length) false)
  | [],n,h=>by simp at h
  | x::r,n,h=>by
    have hb:0<b.length:=by
      rcases Nat.eq_zero_or_pos b.length with h0 | h0
      · rw[h0] at h;omega
      · exact h0
    show ((b.map (x && ·))++uu r b).getD n false=_
    rcases eF n b.length with hn | hn
    · rw[JG hn,B6 hn,gb,aA,List.getElem?_append_left (by simpa using hn),cm,bX hn,aA,bX hn];rfl
    · obtain ⟨k,rfl⟩ :∃k,n=k+b.length:=⟨n - b.length,by omega⟩
      have ih:=D3 b r k (by rw[dH,fj] at h;omega)
      rw[aA,List.getElem?_append_right (by simpa using hn),ey,Nat.add_sub_cancel,← aA,ih,Nat.add_div_right _ hb,Nat.add_mod_right,eJ]
def vJ (q:Int × Bool):Nm:=(q.1,!q.2)
theorem R' (l:List Nm) (s:List Bool):qK (jl l s)=vJ (fx l s (0,false)):=abq l s
def uv (m:aj) (left:List (List Bool)) (g:Lg):List (Int × Bool):=PC left g.1 m.cls.length++PP m left g.2 m.ae.length++PK m left m.au.length
theorem Sa (a b:List (Int × Bool)) (z:Int × Bool):cN (a++b) z=cN b (cN a z):=by unfold cN;rw[List.foldl_append]
theorem abr (m:aj) (left:List (List Bool)) (g:Lg):nh m left g=if (cN (uv m left g) (0,false)).2=true then 1099511627776 else min (cN (uv m left g) (0,false)).1 1099511627776:=by
  unfold nh uv;rw[Sa,Sa]
theorem A5:∀ (l:List (Int × Bool)) (n:Int),(cN l (n,true)).2=true
  | [],_=>rfl
  | p::r,n=>A5 r _
theorem Sb:∀ (l:List (Int × Bool)) (n:Int),(cN l (n,false)).2=true↔∃ p∈l,p.2=false
  | [],_=>by simp[cN]
  | p::r,n=>by
    show (cN r (n+p.1,false || !p.2)).2=true↔_
    cases hp:p.2 with
    | false =>
      simp only[Bool.not_false,Bool.or_true]
      exact⟨fun _=>⟨p,by simp,hp⟩,fun _=>A5 r _⟩
    | true =>
      simp only[Bool.not_true,Bool.or_false]
      rw[Sb r]
      constructor
      · rintro ⟨q,hq,h⟩;exact⟨q,by simp[hq],h⟩
      · rintro ⟨q,hq,h⟩
        rcases cu.1 hq with rfl | hq
        · rw[hp] at h;cases h
        · exact⟨q,hq,h⟩
theorem HH:∀ (l:List Nm) (s:List Bool),(jl l s).length≤l.length
  | [],s=>by cases s<;>simp[jl]
  | p::r,[]=>by simp[jl]
  | p::r,is::s=>by
    rw[jl,List.length_append,dH]
    have:=HH r s
    split<;>simp<;>omega
structure Sat (R:Int) (out:List Int) (v:Int):Prop where
  ok:gR R out
  v0:0≤v
  eq:min (iV out) 1099511627776=min v 1099511627776
theorem Sd:∀ (l:List Int) (i:Nat) (x:Int),i<l.length→iV (l.set i x)=iV l - l.getD i 0+x
  | [],i,x,h=>by simp at h
  | y::r,0,x,_=>by simp only[List.set_cons_zero,iV,gb];omega
  | y::r,i+1,x,h=>by
    have:=Sd r i x (by simpa using h)
    simp only[List.set_cons_succ,iV,eJ];omega
theorem Sat.add {R:Int} {out:List Int} {v r d:Int} (h:Sat R out v) (hr:0≤r∧r<R) (hd:bF d):Sat R (ef out r d) (v+d):=by
  have hlen:=h.ok.1
  have hi:r.toNat<out.length:=by omega
  have hs:=Hu h.ok.2 _ (aC (d:=(0:Int)) hi)
  have gr:=Sd out r.toNat (dw (out.getD r.toNat 0) d) hi
  have hg:=h.ok.get r.toNat
  have he:=h.eq
  have hv:=h.v0
  unfold bF at hg
  have s6:=hd
  unfold bF at s6
  refine⟨h.ok.add hd,by omega,?_⟩
  unfold ef
  rw[gr]
  unfold dw
  omega
theorem Sat.le {R:Int} {out:List Int} {v w:Int} (h:Sat R out v) (hw:0≤w) (e:min v 1099511627776=min w 1099511627776):Sat R out w:=⟨h.ok,hw,h.eq.trans e⟩
theorem Se {R:Int}:∀ (l:List (Int × Int)) (out:List Int) (v n:Int),(∀ c∈l,iu R c.1=true∧iR c.2=true)→0≤v→bF n→Sat R out (v+n)→Sat R (ng l out) (v+(l.map (·.2)).foldl dw n)
  | [],out,v,n,_,_,_,h=>h
  | c::r,out,v,n,hc,hv,dR,h=>by
    rw[ng]
    have h1:=hc c (by simp)
    have hr:=h1.1
    rw[iu,decide_eq_true_eq] at hr
    have hp:=jY h1.2
    have h2:=h.add hr hp
    refine Se r _ v (dw n c.2) (fun x hx=>hc x (by simp[hx])) hv (xd dR hp) (h2.le ?_ ?_)
    · have:=xd dR hp;unfold bF at this;omega
    · unfold bF at hp dR;unfold dw;omega
theorem Sf {m:aj} (hm:VM m):∀ (plan:List Int) (i:Nat) (out:List Int) (v:Int),(∀ j,j<plan.length→g7 m ((i+j:Nat):Int) (plan.getD j 0)=true) →
    Sat m.rules out v→Sat m.rules (mg m i plan out) (v+bj (fun j=>jg ((m.cls.getD (i+j) default).getD (plan.getD j 0).toNat default)) plan.length)
  | [],i,out,v,_,h=>by show Sat m.rules out (v+0);rw[xQ];exact h
  | o::r,i,out,v,hg,h=>by
    rw[mg]
    have h0:=hg 0 (by simp)
    rw[gb,jr] at h0
    obtain ⟨b1,b2,b3,b4⟩:=fZ.1 h0
    rw[gD] at b4
    rw[if_neg (by omega)]
    have hl:=aC (l:=m.cls) (i:=i) (d:=default) (by omega)
    have ho:=aC (l:=m.cls.getD i default) (i:=o.toNat) (d:=default) (by omega)
    have ep:=hm.kI _ hl _ ho
    have h1:=Se _ out v 0 (uj ep) h.v0 (by unfold bF;decide) (by rw[xQ];exact h)
    have h2:=Sf hm r (i+1) _ _ (fun j hj=>by
      have:=hg (j+1) (by simpa using hj)
      rwa [eJ,show i+(j+1)=i+1+j by omega] at this) h1
    rw[dH,xe]
    simp only[gb,eJ,jr]
    rw[← Int.add_assoc]
    rw[jD (g:=fun j=>jg ((m.cls.getD (i+(j+1)) default).getD (r.getD j 0).toNat default)) r.length fun j _=>by rw[show i+1+j=i+(j+1) by omega]] at h2
    exact h2
def jm (m:aj) (plan:List Int) (p:Pr):Int:=lk m p (plan.getD p.fst.toNat 0) (plan.getD p.snd.toNat 0)
theorem Sg {m:aj} {plan:List Int} (hp:FP m plan):∀ (l:List Pr) (out:List Int) (v:Int),(∀ p∈l,eW m p=true)→Sat m.rules out v →
    Sat m.rules (lL m plan l out) (v+bj (fun i=>jm m plan (l.getD i default)) l.length)
  | [],out,v,_,h=>by show Sat m.rules out (v+0);rw[xQ];exact h
  | p::r,out,v,hg,h=>by
    rw[lL]
    have dG:=hg p (by simp)
    obtain ⟨q1,q2,q3,q4,q5⟩:=kJ dG
    have cq:=hp.len
    have g1:=hp.get p.fst.toNat (by omega)
    have g2:=hp.get p.snd.toNat (by omega)
    have a1:=fZ.1 g1
    have a2:=fZ.1 g2
    rw[if_pos ⟨a1.2.2.1,a2.2.2.1⟩]
    have h2:=Sg hp r _ _ (fun x hx=>hg x (by simp[hx])) (h.add q1 (yV dG (plan.getD p.fst.toNat 0) (plan.getD p.snd.toNat 0)))
    rw[dH,xe]
    simp only[gb,eJ]
    rw[← Int.add_assoc]
    exact h2
def g9 (plan:List Int) (c:Ct):Int:=jk c.most c.bL (iU plan c.aS 0)
theorem Sh {m:aj} {plan:List Int}:∀ (l:List Ct) (out:List Int) (v:Int),(∀ c∈l,fY m c=true)→Sat m.rules out v →
    Sat m.rules (mh plan l out) (v+bj (fun i=>g9 plan (l.getD i default)) l.length)
  | [],out,v,_,h=>by show Sat m.rules out (v+0);rw[xQ];exact h
  | c::r,out,v,hg,h=>by
    rw[mh]
    obtain ⟨q1,q2,q3,q4⟩:=lj (hg c (by simp))
    have h2:=Sh (plan:=plan) r _ _ (fun x hx=>hg x (by simp[hx])) (h.add q1 (yU (most:=c.most) (sum:=iU plan c.aS 0) (jY q3)))
    rw[dH,xe]
    simp only[gb,eJ]
    rw[← Int.add_assoc]
    exact h2
def kL (m:aj) (plan:List Int) (j:Nat):Int:=jg ((m.cls.getD j default).getD (plan.getD j 0).toNat default)
theorem y9 {m:aj} {plan:List Int} (hv:VM m) (hp:FP m plan):iF (gQ m plan) 0 =
    min (bj (kL m plan) m.cls.length+bj (fun i=>jm m plan (m.ae.getD i default)) m.ae.length+bj (fun i=>g9 plan (m.au.getD i default)) m.au.length) 1099511627776:=by
  have h0:Sat m.rules (bY m.rules.toNat 0) 0:=by
    refine⟨gR.rep hv.im.1,by decide,?_⟩
    have:∀ k,iV (bY k 0)=0:=by
      intro k
      induction k with
      | zero=>rfl
      | succ k ih=>rw[List.replicate_succ,iV,ih];rfl
    rw[this]
  have h1:=Sf hv plan 0 _ _ (fun j hj=>by rw[fi];exact hp.get j hj) h0
  have h2:=Sg hp m.ae _ _ (jh hv.pr) h1
  have h3:=Sh (plan:=plan) m.au _ _ hv.ct h2
  have A6:=DY (DX hv plan).2 (n:=0) (by unfold bF;decide)
  have he:=h3.eq
  change min (iV (gQ m plan)) _=_ at he
  rw[A6,wg,he,wg,hp.len]
  simp only[fi]
  rfl
theorem Si (r:List Nm) (i q:Nat) (a:Int) (hi:i<r.length):(uw r i a).getD q default=if i=q then ((r.getD q default).1+a,(r.getD q default).2) else r.getD q default:=by
  unfold uw
  by_cases h:i=q
  · subst h
    rw[if_pos rfl]
    simp only[aA,b6,hi,if_true,mP]
  · rw[if_neg h]
    simp only[aA,bm h]
theorem Sj (r:List Nm) {i q:Nat} (a:Int) (h:i≠q):(uw r i a).getD q default=r.getD q default:=by
  unfold uw
  simp only[aA,bm h]
theorem D4 {f:Nat→Nat} {a:Int} {t:List Nm} {q:Nat}:∀ k:Nat,(∀ j,j<k→f j≠q)→(rR f a k t).getD q default=t.getD q default
  | 0,_=>rfl
  | k+1,h=>by rw[rR,Sj _ _ (h k (by omega)),D4 k fun j hj=>h j (by omega)]
theorem HI {f:Nat→Nat} {a:Int} {t:List Nm} {q j0:Nat} (h0:f j0=q) (hq:q<t.length):∀ k:Nat,j0<k→(∀ j,j<k→j≠j0→f j≠q)→(rR f a k t).getD q default=((t.getD q default).1 - a,(t.getD q default).2)
  | 0,hk,_=>by omega
  | k+1,hk,h=>by
    rw[rR]
    by_cases e:j0=k
    · subst e
      rw[h0,Si _ _ _ _ (by rw[HJ];exact hq),if_pos rfl,D4 j0 fun j hj=>h j (by omega) (by omega)]
      congr 1
    · rw[Sj _ _ (h k (by omega) (by omega)),HI h0 hq k (by omega) fun j hj=>h j (by omega)]
theorem D5 {a b n j k:Int} (hj:0≤j∧j<n) (hk:0≤k∧k<n) (h:a * n+j=b * n+k):a=b∧j=k:=by
  rcases Int.lt_trichotomy a b with hl | hl | hl
  · have:(a+1) * n≤b * n:=Fh (by omega) (by omega)
    rw[JT,Fq] at this
    omega
  · subst hl;omega
  · have:(b+1) * n≤a * n:=Fh (by omega) (by omega)
    rw[JT,Fq] at this
    omega
def kM (plan:List Int) (g:Lg) (i:Nat):Nm:=(g.1.getD i default).getD (plan.getD i 0).toNat default
def ta (m:aj) (plan:List Int) (p:Pr):Nat:=(plan.getD p.fst.toNat 0 * (m.cls.getD p.snd.toNat default).length+plan.getD p.snd.toNat 0).toNat
def kN (m:aj) (plan:List Int) (g:Lg) (i:Nat):Nm:=(g.2.getD i default).getD (ta m plan (m.ae.getD i default)) default
theorem Sk {α:Type} [Inhabited α] (l:List α) (i j:Nat) (x:α) (hi:i<l.length):(l.set i x).getD j default=if i=j then x else l.getD j default:=by
  by_cases h:i=j
  · subst h;rw[if_pos rfl];simp only[aA,b6,hi,if_true,mP]
  · rw[if_neg h];simp only[aA,bm h]
structure D6 (m:aj) (x:Mv):Prop where
  p:0≤x.pair∧x.pair<m.ae.length
  s:x.side=0∨x.side=1
  c:0≤oZ m x∧oZ m x<m.cls.length
  o:0≤x.opt∧x.opt<(m.cls.getD (oZ m x).toNat default).length
theorem abt {m:aj} {x:Mv} (h:o6 m x=true):D6 m x:=by
  unfold o6 at h
  rw[bk,decide_eq_true_eq,fZ] at h
  exact⟨by omega,by omega,by omega,by omega⟩
theorem o7 {m:aj} {plan:List Int} (hp:FP m plan) {j:Nat} (hj:j<m.cls.length):0≤plan.getD j 0∧plan.getD j 0<(m.cls.getD j default).length:=by
  have h:=fZ.1 (hp.get j (by rw[hp.len];exact hj))
  rw[gD] at h
  exact h.2.2
abbrev A7 (m:aj) (plan:List Int) (x:Mv):Prop:=plan.getD (oZ m x).toNat 0=x.opt
theorem abu {m:aj} {plan:List Int} (hp:FP m plan) {B:Int} {g:Lg} (h:LG m B g) {x:Mv} (hx:D6 m x) (i:Nat) :
    kM plan (og m x g) i=if i=(oZ m x).toNat then (if A7 m plan x then ((kM plan g i).1+x.ux,(kM plan g i).2) else kM plan g i) else kM plan g i:=by
  obtain ⟨hxp,ew,rB,tc⟩:=hx
  have h1:=h.s
  have h2:=h.sl (oZ m x).toNat (by omega)
  have h3:=o7 hp (j:=(oZ m x).toNat) (by omega)
  unfold kM og A7
  dsimp only
  rw[Sk _ _ _ _ (by omega)]
  by_cases e:i=(oZ m x).toNat
  · subst e
    rw[if_pos rfl,if_pos rfl,Si _ _ _ _ (by omega)]
    by_cases e2:plan.getD (oZ m x).toNat 0=x.opt
    · rw[if_pos e2,if_pos (by rw[e2])]
    · rw[if_neg e2,if_neg (by omega)]
  · rw[if_neg (Ne.symm e),if_neg e]
theorem abw {m:aj} (hm:VM m) {plan:List Int} (hp:FP m plan) {B:Int} {g:Lg} (h:LG m B g) {x:Mv} (hx:D6 m x) (i:Nat) :
    kN m plan (og m x g) i=if i=x.pair.toNat then (if A7 m plan x then ((kN m plan g i).1 - x.ux,(kN m plan g i).2) else kN m plan g i) else kN m plan g i:=by
  obtain ⟨hxp,ew,rB,tc⟩:=hx
  have h1:=h.t
  have h2:=h.tl x.pair.toNat (by omega)
  unfold kN og
  dsimp only
  rw[Sk _ _ _ _ (by omega)]
  by_cases e:i=x.pair.toNat
  rotate_left
  · rw[if_neg (Ne.symm e),if_neg e]
  subst e
  rw[if_pos rfl,if_pos rfl]
  have dG:=jh hm.pr _ (aC (l:=m.ae) (i:=x.pair.toNat) (d:=default) (by omega))
  unfold A7
  unfold oZ at *
  unfold A8 ta
  generalize m.ae.getD x.pair.toNat default=p at *
  obtain ⟨q1,q2,q3,q4,q5⟩:=kJ dG
  have ha:=o7 hp (j:=p.fst.toNat) (by omega)
  have hb:=o7 hp (j:=p.snd.toNat) (by omega)
  have xg:=hm.opt _ (aC (l:=m.cls) (i:=p.fst.toNat) (d:=default) (by omega))
  have k7:=hm.opt _ (aC (l:=m.cls) (i:=p.snd.toNat) (d:=default) (by omega))
  generalize g.2.getD x.pair.toNat default=t at *
  generalize yK:plan.getD p.fst.toNat 0=a at *
  generalize gn:plan.getD p.snd.toNat 0=b at *
  generalize oQ:(m.cls.getD p.fst.toNat default).length=na at *
  generalize abx:(m.cls.getD p.snd.toNat default).length=nb at *
  have gN:=uh (x:=a) (y:=b) (a:=na) (b:=nb) ha hb (by omega) (by omega)
  rcases ew with hs | hs
  · rw[if_pos hs] at rB tc
    rw[if_pos hs,if_pos hs,yK]
    rw[oQ] at tc
    dsimp only
    have AQ:=uh (x:=x.opt) (y:=b) (a:=na) (b:=nb) tc hb (by omega) (by omega)
    by_cases e2:a=x.opt
    · rw[if_pos e2]
      refine HI (j0:=b.toNat) ?_ (by omega) nb (by omega) fun j hj dm he=>?_
      · rw[e2,po hb.1]
      · have:=D5 (a:=x.opt) (b:=a) (n:=nb) (j:=j) (k:=b) (by omega) (by omega) (by omega)
        omega
    · rw[if_neg e2]
      refine D4 nb fun j hj he=>?_
      have:=D5 (a:=x.opt) (b:=a) (n:=nb) (j:=j) (k:=b) (by omega) (by omega) (by omega)
      omega
  · rw[if_neg (by omega)] at rB tc
    have uc:¬ x.side=0:=by omega
    rw[if_neg uc,if_neg uc,gn]
    rw[abx] at tc
    dsimp only
    by_cases e2:b=x.opt
    · rw[if_pos e2]
      refine HI (j0:=a.toNat) ?_ (by omega) na (by omega) fun j hj dm he=>?_
      · rw[e2,po ha.1]
      · have C7:=uh (x:=(j:Int)) (y:=x.opt) (a:=na) (b:=nb) (by omega) tc (by omega) (by omega)
        have:=D5 (a:=(j:Int)) (b:=a) (n:=nb) (j:=x.opt) (k:=b) (by omega) (by omega) (by omega)
        omega
    · rw[if_neg e2]
      refine D4 na fun j hj he=>?_
      have C7:=uh (x:=(j:Int)) (y:=x.opt) (a:=na) (b:=nb) (by omega) tc (by omega) (by omega)
      have:=D5 (a:=(j:Int)) (b:=a) (n:=nb) (j:=x.opt) (k:=b) (by omega) (by omega) (by omega)
      omega
def uy (m:aj) (plan:List Int) (g:Lg):Int:=bj (fun i=>(kM plan g i).1) m.cls.length+bj (fun i=>(kN m plan g i).1) m.ae.length
theorem aby {m:aj} (hm:VM m) {plan:List Int} (hp:FP m plan) {B:Int} {g:Lg} (h:LG m B g) {x:Mv} (hx:D6 m x) :
    uy m plan (og m x g)=uy m plan g∧(∀ i,(kM plan (og m x g) i).2=(kM plan g i).2)∧∀ i,(kN m plan (og m x g) i).2=(kN m plan g i).2:=by
  have hS:=abu hp h hx
  have hT:=abw hm hp h hx
  refine⟨?_,fun i=>?_,fun i=>?_⟩
  · unfold uy
    by_cases hh:A7 m plan x
    · rw[jD (g:=fun i=>if i=(oZ m x).toNat then (kM plan g i).1+x.ux else (kM plan g i).1) m.cls.length fun i _=>by
        rw[hS,if_pos hh];split<;>rfl,jD (g:=fun i=>if i=x.pair.toNat then (kN m plan g i).1+-x.ux else (kN m plan g i).1) m.ae.length fun i _=>by
        rw[hT,if_pos hh];split<;>rfl,yX,yX,if_pos (by have:=hx.c;omega),if_pos (by have:=hx.p;omega)]
      omega
    · rw[jD (g:=fun i=>(kM plan g i).1) m.cls.length fun i _=>by rw[hS,if_neg hh];simp,jD (g:=fun i=>(kN m plan g i).1) m.ae.length fun i _=>by rw[hT,if_neg hh];simp]
  · rw[hS];split<;>(try split)<;>rfl
  · rw[hT];split<;>(try split)<;>rfl
theorem Sl {m:aj} (hm:VM m) {plan:List Int} (hp:FP m plan):∀ (l:List Mv) (B:Int) (g:Lg),0≤B→LG m B g→(∀ x∈l,o6 m x=true) →
    uy m plan (mK m l g)=uy m plan g∧(∀ i,(kM plan (mK m l g) i).2=(kM plan g i).2)∧∀ i,(kN m plan (mK m l g) i).2=(kN m plan g i).2
  | [],B,g,_,_,_=>⟨rfl,fun _=>rfl,fun _=>rfl⟩
  | x::r,B,g,hB,h,hx=>by
    have h1:=aby hm hp h (abt (hx x (by simp)))
    have h2:=Sl hm hp r _ (og m x g) (by omega) (Sm hm hB h (hx x (by simp))) (fun y hy=>hx y (by simp[hy]))
    exact⟨h2.1.trans h1.1,fun i=>(h2.2.1 i).trans (h1.2.1 i),fun i=>(h2.2.2 i).trans (h1.2.2 i)⟩
theorem D7:∀ (l:List Nm) (s:List Bool) (b:Int × Bool),b.2=true→(fx l s b).2=true∧(fx l s b).1≤b.1
  | [],s,b,h=>by cases s<;>exact⟨h,dE _⟩
  | p::r,[],b,h=>⟨h,dE _⟩
  | p::r,is::s,b,h=>by
    rw[fx]
    split
    · rename_i hc
      have h2:=D7 r s (p.1,true) rfl
      have h3:p.1<b.1:=by
        rcases hc.2.2 with h4 | h4
        · rw[h] at h4;cases h4
        · exact h4
      exact⟨h2.1,by have:=h2.2;dsimp only at this;omega⟩
    · exact D7 r s b h
theorem HK:∀ (l:List Nm) (s:List Bool) (b:Int × Bool) (i:Nat),i<l.length→s.getD i false=true→(l.getD i default).2=false→(fx l s b).2=true∧(fx l s b).1≤(l.getD i default).1
  | [],s,b,i,h,_,_=>by simp at h
  | p::r,[],b,i,_,h,_=>by simp at h
  | p::r,is::s,b,0,_,h1,h2=>by
    rw[gb] at h1 h2 ⊢
    rw[fx]
    split
    · exact D7 r s (p.1,true) rfl
    · rename_i hc
      have hb:b.2=true∧b.1≤p.1:=by
        cases vK:b.2 with
        | false=>exact absurd ⟨h1,h2,.inl vK⟩ hc
        | true=>exact⟨rfl,by rcases Ca p.1 b.1 with h | h;exact absurd ⟨h1,h2,.inr h⟩ hc;exact h⟩
      have:=D7 r s b hb.1
      exact⟨this.1,by omega⟩
  | p::r,is::s,b,i+1,h,h1,h2=>by
    rw[eJ] at h1 h2 ⊢
    rw[fx]
    exact HK r s _ i (by simpa using h) h1 h2
theorem Sn:∀ (l:List Nm) (s:List Bool) (b:Int × Bool),(∀ i,s.getD i false=false)→fx l s b=b
  | [],s,b,_=>by cases s<;>rfl
  | p::r,[],b,_=>rfl
  | p::r,is::s,b,h=>by
    have h0:=h 0
    rw[gb] at h0
    rw[fx,if_neg (by rw[h0];simp)]
    exact Sn r s b fun i=>by have:=h (i+1);rwa [eJ] at this
theorem HL:∀ (l:List Nm) (s:List Bool) (b:Int × Bool) (i:Nat),i<l.length→(∀ j,s.getD j false=decide (j=i))→b.2=false →
    fx l s b=if (l.getD i default).2=false then ((l.getD i default).1,true) else b
  | [],s,b,i,h,_,_=>by simp at h
  | p::r,[],b,i,_,h,_=>by have:=h i;simp at this
  | p::r,is::s,b,0,_,h,hb=>by
    have h0:=h 0
    rw[gb,decide_eq_true rfl] at h0
    rw[gb,fx,Sn r s _ fun i=>by have:=h (i+1);rw[eJ] at this;rw[this];simp]
    by_cases hp:p.2=false
    · rw[if_pos ⟨h0,hp,.inl hb⟩,if_pos hp]
    · rw[if_neg (fun hc=>hp hc.2.1),if_neg hp]
  | p::r,is::s,b,i+1,hi,h,hb=>by
    have h0:=h 0
    rw[gb,decide_eq_false (by omega)] at h0
    rw[eJ,fx,if_neg (by rw[h0];simp)]
    exact HL r s b i (by simpa using hi) (fun j=>by have:=h (j+1);rw[eJ] at this;rw[this];simp) hb
theorem D8 (f:Nat→Int × Bool) (z:Int × Bool):∀ n,(cN ((aN n).map f) z).1=z.1+bj (fun i=>(f i).1) n
  | 0=>by simp[cN,bj]
  | n+1=>by rw[D9,HM,bj];dsimp only;rw[D8 f z n];omega
theorem xh (f:Nat→Int × Bool) (z:Int × Bool):∀ n,(cN ((aN n).map f) z).2=true↔(z.2=true∨∃ i,i<n∧(f i).2=false)
  | 0=>by simp[cN]
  | n+1=>by
    rw[D9,HM]
    dsimp only
    rw[Bool.or_eq_true,xh f z n,Bool.not_eq_true']
    constructor
    · rintro ((h | ⟨i,hi,h⟩) | h)
      · exact .inl h
      · exact .inr ⟨i,by omega,h⟩
      · exact .inr ⟨n,by omega,h⟩
    · rintro (h | ⟨i,hi,h⟩)
      · exact .inl (.inl h)
      · by_cases e:i=n
        · subst e;exact .inr h
        · exact .inl (.inr ⟨i,by omega,h⟩)
def td (left:List (List Bool)) (g:Lg) (i:Nat):Int × Bool:=fx (g.1.getD i default) (left.getD i default) (0,false)
def te (m:aj) (left:List (List Bool)) (g:Lg) (i:Nat):Int × Bool:=fx (g.2.getD i default) (kP m left i) (0,false)
def pM (m:aj) (left:List (List Bool)) (i:Nat):Int × Bool:=(oa left (m.au.getD i default),!(decide ((m.au.getD i default).bL=1099511627776) && decide (0<oa left (m.au.getD i default))))
def A9 (m:aj) (left:List (List Bool)) (g:Lg):Int:=bj (fun i=>(td left g i).1) m.cls.length+bj (fun i=>(te m left g i).1) m.ae.length+bj (fun i=>(pM m left i).1) m.au.length
def HN (m:aj) (left:List (List Bool)) (g:Lg):Prop:=(∃ i,i<m.cls.length∧(td left g i).2=false)∨(∃ i,i<m.ae.length∧(te m left g i).2=false)∨∃ i,i<m.au.length∧(pM m left i).2=false
theorem abz {m:aj} {left:List (List Bool)} {g:Lg} (h:HN m left g):nh m left g=1099511627776:=by
  unfold nh
  rw[if_pos]
  show (cN ((aN m.au.length).map (pM m left)) (cN ((aN m.ae.length).map (te m left g)) (cN ((aN m.cls.length).map (td left g)) (0,false)))).2=true
  rw[xh,xh,xh]
  rcases h with h | h | h
  · exact .inl (.inl (.inr h))
  · exact .inl (.inr h)
  · exact .inr h
theorem So {m:aj} {left:List (List Bool)} {g:Lg} (h:¬ HN m left g):nh m left g=min (A9 m left g) 1099511627776:=by
  have h1:¬ (cN ((aN m.au.length).map (pM m left)) (cN ((aN m.ae.length).map (te m left g)) (cN ((aN m.cls.length).map (td left g)) (0,false)))).2=true:=by
    rw[xh,xh,xh]
    rintro (((h2 | h2) | h2) | h2)
    · cases h2
    · exact h (.inl h2)
    · exact h (.inr (.inl h2))
    · exact h (.inr (.inr h2))
  have h2:(cN ((aN m.au.length).map (pM m left)) (cN ((aN m.ae.length).map (te m left g)) (cN ((aN m.cls.length).map (td left g)) (0,false)))).1=A9 m left g:=by
    rw[D8,D8,D8]
    unfold A9
    dsimp only
    omega
  show (if (cN ((aN m.au.length).map (pM m left)) (cN ((aN m.ae.length).map (te m left g)) (cN ((aN m.cls.length).map (td left g)) (0,false)))).2=true then (1099511627776:Int) else min (cN ((aN m.au.length).map (pM m left)) (cN ((aN m.ae.length).map (te m left g)) (cN ((aN m.cls.length).map (td left g)) (0,false)))).1 1099511627776)=_
  rw[if_neg h1,h2]
theorem abA (m:aj) (left:List (List Bool)) (g:Lg):nh m left g≤1099511627776:=by
  unfold nh;split<;>omega
theorem Ea:∀ (l:List Ld) (c o w:Int),(∀ y∈l,¬ (y.cls=c∧y.opt=o))→jB l c o w=w
  | [],_,_,_,_=>rfl
  | x::r,c,o,w,h=>by rw[jB,if_neg (h x (by simp)),Ea r c o w fun y hy=>h y (by simp[hy])]
theorem Sp {m:aj}:∀ {l:List Ld} {q:Option Ld} (c o:Int),dx m q l=true→jB l c o 0=rS l c o
  | [],_,_,_,_=>rfl
  | x::r,q,c,o,h=>by
    have hr:dx m (some x) r=true:=by
      cases q<;>rw[dx] at h<;>simp only[bk] at h<;>exact h.2
    rw[jB,rS]
    by_cases e:x.cls=c∧x.opt=o
    · rw[if_pos e,if_pos e]
      exact Ea r c o _ fun y hy he=>by have:=vL hr y hy;omega
    · rw[if_neg e,if_neg e];exact Sp c o hr
theorem Sr (l:List Ld):∀ (plan:List Int) (i:Nat),qL l i plan=bj (fun j=>rS l (i+j:Nat) (plan.getD j 0)) plan.length
  | [],i=>rfl
  | o::r,i=>by
    rw[qL,Sr l r (i+1),dH,xe]
    simp only[gb,eJ,jr]
    rw[jD (g:=fun j=>rS l (i+(j+1):Nat) (r.getD j 0)) r.length fun j _=>by rw[show i+1+j=i+(j+1) by omega]]
theorem za {l:List Ld} (h:∀ x∈l,1≤x.wt∧x.wt≤1000) (c:Int):∀ (row:List Bool) (o:Nat) (b:Int),0≤b→0≤jC l c o row b∧jC l c o row b≤b
  | [],_,b,hb=>⟨hb,dE _⟩
  | is::r,o,b,hb=>by
    rw[jC]
    have hw:=yW h c o 0 (by omega)
    split
    · rename_i hc
      have:=za h c r (o+1) (jB l c o 0) hw.1
      omega
    · exact za h c r (o+1) b hb
theorem Eb {l:List Ld} (h:∀ x∈l,1≤x.wt∧x.wt≤1000) (c:Int):∀ (row:List Bool) (o:Nat) (b:Int) (i:Nat),row.getD i false=true→jC l c o row b≤jB l c (o+i:Nat) 0
  | [],_,b,i,hi=>by simp at hi
  | is::r,o,b,0,hi=>by
    rw[gb] at hi
    have hw:=yW h c o 0 (by omega)
    rw[jC]
    simp only[jr]
    split
    · exact (za h c r (o+1) _ hw.1).2
    · rename_i hc
      have hb:0≤b∧b≤jB l c o 0:=by
        constructor
        · rcases Ca b 0 with h2 | h2
          · exact absurd ⟨hi,.inl h2⟩ hc
          · exact h2
        · rcases Ca (jB l c o 0) b with h2 | h2
          · exact absurd ⟨hi,.inr h2⟩ hc
          · exact h2
      have:=za h c r (o+1) b hb.1
      omega
  | is::r,o,b,i+1,hi=>by
    rw[eJ] at hi
    rw[jC,show o+(i+1)=o+1+i by omega]
    exact Eb h c r (o+1) _ i hi
theorem HO (l:List Ld) (c:Int):∀ (row:List Bool) (o:Nat) (b:Int),(∀ i,row.getD i false=false)→jC l c o row b=b
  | [],_,_,_=>rfl
  | is::r,o,b,h=>by
    have h0:=h 0
    rw[gb] at h0
    rw[jC,if_neg (by rw[h0];simp)]
    exact HO l c r (o+1) b fun i=>by have:=h (i+1);rwa [eJ] at this
theorem Ss (l:List Ld) (c:Int):∀ (row:List Bool) (o:Nat) (i:Nat),(∀ j,row.getD j false=decide (j=i))→jC l c o row (-1)=jB l c (o+i:Nat) 0
  | [],_,i,h=>by have:=h i;simp at this
  | is::r,o,0,h=>by
    have h0:=h 0
    rw[gb,decide_eq_true rfl] at h0
    rw[jC,if_pos ⟨h0,.inl (by decide)⟩,jr]
    exact HO l c r (o+1) _ fun j=>by have:=h (j+1);rw[eJ] at this;rw[this];simp
  | is::r,o,i+1,h=>by
    have h0:=h 0
    rw[gb,decide_eq_false (by omega)] at h0
    rw[jC,if_neg (by rw[h0];simp),show o+(i+1)=o+1+i by omega]
    exact Ss l c r (o+1) i fun j=>by have:=h (j+1);rw[eJ] at this;rw[this];simp
theorem xi {f:Nat→Int}:∀ (n:Nat),(∀ i<n,0≤f i)→0≤bj f n∧∀ i<n,f i≤bj f n
  | 0,_=>⟨dE _,fun i h=>by omega⟩
  | n+1,h=>by
    have h1:=xi n fun i hi=>h i (by omega)
    have h2:=h n (by omega)
    rw[bj]
    refine⟨by omega,fun i hi=>?_⟩
    by_cases e:i=n
    · subst e;omega
    · have:=h1.2 i (by omega);omega
theorem Ba {f g:Nat→Int}:∀ (n:Nat),(∀ i<n,f i≤g i)→bj f n≤bj g n
  | 0,_=>dE _
  | n+1,h=>by
    have:=Ba n fun i hi=>h i (by omega)
    have:=h n (by omega)
    rw[bj,bj];omega
theorem abB {m:aj} {plan:List Int} (hm:VM m) (hp:FP m plan) {i:Nat} (hi:i<m.cls.length):bF (kL m plan i):=by
  have h:=o7 hp hi
  have hl:=aC (l:=m.cls) (i:=i) (d:=default) hi
  exact AR (hm.kI _ hl _ (aC (l:=m.cls.getD i default) (i:=(plan.getD i 0).toNat) (d:=default) (by omega)))
theorem Su {m:aj} {plan:List Int} (hp:FP m plan) {i:Nat} (hi:i<m.cls.length):kM plan (S0 m,T0 m) i=gz (kL m plan i):=by
  have h:=o7 hp hi
  unfold kM S0
  dsimp only
  rw[iG _ _ _ hi]
  unfold hJ jL
  rw[List.map_map,iG _ _ _ (by omega)]
  rfl
theorem Sv {m:aj} {plan:List Int} (hm:VM m) (hp:FP m plan) {p:Pr} (dG:eW m p=true):ta m plan p<p.az.length:=by
  obtain ⟨q1,q2,q3,q4,q5⟩:=kJ dG
  have ha:=o7 hp (j:=p.fst.toNat) (by omega)
  have hb:=o7 hp (j:=p.snd.toNat) (by omega)
  have xg:=hm.opt _ (aC (l:=m.cls) (i:=p.fst.toNat) (d:=default) (by omega))
  have k7:=hm.opt _ (aC (l:=m.cls) (i:=p.snd.toNat) (d:=default) (by omega))
  have gN:=uh ha hb (by omega) (by omega)
  unfold ta
  omega
theorem Sw {m:aj} {plan:List Int} (hm:VM m) (hp:FP m plan) {i:Nat} (hi:i<m.ae.length):kN m plan (S0 m,T0 m) i=gz (jm m plan (m.ae.getD i default)):=by
  have dG:=jh hm.pr _ (aC (l:=m.ae) (i:=i) (d:=default) hi)
  have gN:=Sv hm hp dG
  unfold kN T0
  dsimp only
  rw[iG _ _ _ hi]
  unfold hJ
  rw[iG _ _ _ gN]
  unfold jm lk ta
  rfl
theorem abC {m:aj} {left:List (List Bool)} (hm:VM m) (hf:eG m left) {i:Nat} (hi:i<m.ae.length) {x y:Int}
    (hx:0≤x∧x<(m.cls.getD (m.ae.getD i default).fst.toNat default).length) (hy:0≤y∧y<(m.cls.getD (m.ae.getD i default).snd.toNat default).length) :
    (kP m left i).getD (x * (m.cls.getD (m.ae.getD i default).snd.toNat default).length+y).toNat false=((left.getD (m.ae.getD i default).fst.toNat default).getD x.toNat false && (left.getD (m.ae.getD i default).snd.toNat default).getD y.toNat false):=by
  have dG:=jh hm.pr _ (aC (l:=m.ae) (i:=i) (d:=default) hi)
  unfold kP
  generalize m.ae.getD i default=p at *
  obtain ⟨q1,q2,q3,q4,q5⟩:=kJ dG
  have xg:=hm.opt _ (aC (l:=m.cls) (i:=p.fst.toNat) (d:=default) (by omega))
  have k7:=hm.opt _ (aC (l:=m.cls) (i:=p.snd.toNat) (d:=default) (by omega))
  have gN:=uh hx hy (by omega) (by omega)
  have f1:=hf.2 p.fst.toNat (by have:=hf.1;omega)
  have f2:=hf.2 p.snd.toNat (by have:=hf.1;omega)
  rw[← f1] at hx gN
  rw[← f2] at hy gN ⊢
  generalize left.getD p.fst.toNat default=a at *
  generalize left.getD p.snd.toNat default=b at *
  obtain ⟨x,rfl⟩:=JU hx.1
  obtain ⟨y,rfl⟩:=JU hy.1
  have e:((x:Int) * b.length+y).toNat=x * b.length+y:=by
    rw[show ((x:Int) * b.length+y)=((x * b.length+y:Nat):Int) by simp,gD]
  have e2:x * b.length+y<a.length * b.length:=by
    have:=gN.2.2
    rw[show ((x:Int) * b.length+y)=((x * b.length+y:Nat):Int) by simp,show (a.length:Int) * b.length=((a.length * b.length:Nat):Int) by simp] at this
    omega
  have C5:y<b.length:=by omega
  rw[e,D3 _ _ _ e2,gD,gD,pZ x,Nat.mul_add_div (by omega),JG C5,JF,B6 C5,jr]
theorem Sx {m:aj} {plan:List Int} (hp:FP m plan) {c:Ct} (hc:fY m c=true):iU plan c.aS 0=bj (fun j=>jB c.aS (j:Nat) (plan.getD j 0) 0) m.cls.length:=by
  obtain ⟨_,_,_,q4⟩:=lj hc
  rw[Sy hp.len 0 q4,Sr,wg,hp.len]
  exact jD _ fun j _=>by rw[fi,Sp _ _ q4]
def vM (m:aj) (left:List (List Bool)) (plan:List Int):Prop:=∀ i,i<m.cls.length→(left.getD i default).getD (plan.getD i 0).toNat false=true
def zb (m:aj) (left:List (List Bool)) (plan:List Int):Prop:=∀ i,i<m.cls.length→∀ j,(left.getD i default).getD j false=decide (j=(plan.getD i 0).toNat)
theorem zb.Sz {m:aj} {left:List (List Bool)} {plan:List Int} (h:zb m left plan):vM m left plan:=fun i hi=>by rw[h i hi,decide_eq_true rfl]
theorem least_le {m:aj} {plan:List Int} {left:List (List Bool)} (hm:VM m) (hp:FP m plan) (hf:eG m left) (ei:vM m left plan) {c:Ct} (hc:fY m c=true):oa left c≤g9 plan c:=by
  obtain ⟨_,_,q3,q4⟩:=lj hc
  have hw:∀ x∈c.aS,1≤x.wt∧x.wt≤1000:=fun x hx=>(nZ q4 x hx).2
  refine abf (jY q3).1 ?_
  rw[yY,Sx hp hc,wg,hf.1]
  refine Ba _ fun j hj=>?_
  have hg:=o7 hp hj
  have h1:=Eb hw (j:Nat) (left.getD j []) 0 (-1) (plan.getD j 0).toNat (ei j hj)
  have h2:=yW hw (j:Nat) (plan.getD j 0) 0 (by omega)
  rw[fi,po hg.1] at h1
  unfold n9
  rw[fi]
  omega
theorem abD {m:aj} {plan:List Int} {left:List (List Bool)} (hm:VM m) (hp:FP m plan) (hf:eG m left) (ei:zb m left plan) {c:Ct} (hc:fY m c=true):oa left c=g9 plan c:=by
  obtain ⟨_,_,q3,q4⟩:=lj hc
  have hw:∀ x∈c.aS,1≤x.wt∧x.wt≤1000:=fun x hx=>(nZ q4 x hx).2
  unfold oa g9
  congr 1
  rw[yY,Sx hp hc,wg,hf.1]
  refine jD _ fun j hj=>?_
  have hg:=o7 hp hj
  have h1:=Ss c.aS (j:Nat) (left.getD j []) 0 (plan.getD j 0).toNat (ei j hj)
  have h2:=yW hw (j:Nat) (plan.getD j 0) 0 (by omega)
  rw[fi,po hg.1] at h1
  unfold n9
  rw[fi,h1]
  omega
theorem abE {m:aj} {plan:List Int} {c:Ct} (hc:fY m c=true):bF (g9 plan c):=yU (jY (lj hc).2.2.1)
theorem SA {most s:Int} (h:0<jk most 1099511627776 s):jk most 1099511627776 s=1099511627776:=by
  unfold jk at *
  split at h
  · omega
  · rename_i h2;rw[if_neg h2];omega
theorem abF {m:aj} {plan:List Int} {p:Pr} (h:eW m p=true):bF (jm m plan p):=yV h _ _
structure abG (m:aj) (plan:List Int) (left:List (List Bool)) (g:Lg):Prop where
  aX:iF (gQ m plan) 0=min (bj (kL m plan) m.cls.length+bj (fun i=>jm m plan (m.ae.getD i default)) m.ae.length+bj (fun i=>g9 plan (m.au.getD i default)) m.au.length) 1099511627776
  ps:uy m plan g=bj (kL m plan) m.cls.length+bj (fun i=>jm m plan (m.ae.getD i default)) m.ae.length
  sf:∀ i,i<m.cls.length→(kM plan g i).2=decide (1099511627776≤kL m plan i)
  tf:∀ i,i<m.ae.length→(kN m plan g i).2=decide (1099511627776≤jm m plan (m.ae.getD i default))
  sl:∀ i,i<m.cls.length→(plan.getD i 0).toNat<(g.1.getD i default).length
  tl:∀ i,i<m.ae.length→ta m plan (m.ae.getD i default)<(g.2.getD i default).length
  a:0≤bj (kL m plan) m.cls.length∧∀ i<m.cls.length,kL m plan i≤bj (kL m plan) m.cls.length
  b:0≤bj (fun i=>jm m plan (m.ae.getD i default)) m.ae.length∧∀ i<m.ae.length,jm m plan (m.ae.getD i default)≤bj (fun i=>jm m plan (m.ae.getD i default)) m.ae.length
  c:0≤bj (fun i=>g9 plan (m.au.getD i default)) m.au.length∧∀ i<m.au.length,g9 plan (m.au.getD i default)≤bj (fun i=>g9 plan (m.au.getD i default)) m.au.length
theorem parts {m:aj} {plan:List Int} (hm:VM m) (hp:FP m plan) (left:List (List Bool)) (l:List Mv) (hl:∀ x∈l,o6 m x=true):abG m plan left (mK m l (S0 m,T0 m)):=by
  have fH:=Sl hm hp l _ _ (by decide) (SD hm) hl
  have vx:=SE hm l hl
  refine⟨y9 hm hp,?_,fun i hi=>?_,fun i hi=>?_,fun i hi=>?_,fun i hi=>?_,xi _ fun i hi=>(abB hm hp hi).1,xi _ fun i hi=>(abF (jh hm.pr _ (aC hi))).1,xi _ fun i hi=>(abE (hm.ct _ (aC hi))).1⟩
  · rw[fH.1]
    unfold uy
    rw[jD m.cls.length fun i hi=>by rw[Su hp hi],jD m.ae.length fun i hi=>by rw[Sw hm hp hi]]
    rfl
  · rw[fH.2.1,Su hp hi];rfl
  · rw[fH.2.2,Sw hm hp hi];rfl
  · have:=o7 hp hi
    rw[vx.sl i hi];omega
  · rw[vx.tl i hi];exact Sv hm hp (jh hm.pr _ (aC hi))
theorem abH {m:aj} {plan:List Int} {left:List (List Bool)} (hm:VM m) (hp:FP m plan) (hf:eG m left) (ei:vM m left plan) {i:Nat} (hi:i<m.ae.length):(kP m left i).getD (ta m plan (m.ae.getD i default)) false=true:=by
  have dG:=jh hm.pr _ (aC (l:=m.ae) (i:=i) (d:=default) hi)
  obtain ⟨q1,q2,q3,q4,q5⟩:=kJ dG
  unfold ta
  rw[abC hm hf hi (o7 hp (by omega)) (o7 hp (by omega)),ei _ (by omega),ei _ (by omega)]
  rfl
theorem abI {m:aj} {plan:List Int} {left:List (List Bool)} (hm:VM m) (hp:FP m plan) (hf:eG m left) (jd:zb m left plan) {i:Nat} (hi:i<m.ae.length) (j:Nat):(kP m left i).getD j false=decide (j=ta m plan (m.ae.getD i default)):=by
  have dG:=jh hm.pr _ (aC (l:=m.ae) (i:=i) (d:=default) hi)
  obtain ⟨q1,q2,q3,q4,q5⟩:=kJ dG
  have g1:=o7 hp (j:=(m.ae.getD i default).fst.toNat) (by omega)
  have g2:=o7 hp (j:=(m.ae.getD i default).snd.toNat) (by omega)
  have o1:=jd (m.ae.getD i default).fst.toNat (by omega)
  have o2:=jd (m.ae.getD i default).snd.toNat (by omega)
  have f1:=hf.2 (m.ae.getD i default).fst.toNat (by have:=hf.1;omega)
  have f2:=hf.2 (m.ae.getD i default).snd.toNat (by have:=hf.1;omega)
  unfold kP ta
  generalize m.ae.getD i default=p at *
  rw[← f1] at g1
  rw[← f2] at g2 ⊢
  generalize left.getD p.fst.toNat default=a at *
  generalize left.getD p.snd.toNat default=b at *
  generalize plan.getD p.fst.toNat 0=x at *
  generalize plan.getD p.snd.toNat 0=y at *
  obtain ⟨x,rfl⟩:=JU g1.1
  obtain ⟨y,rfl⟩:=JU g2.1
  simp only[gD] at o1 o2
  have hx:x<a.length:=by omega
  have hy:y<b.length:=by omega
  have e:((x:Int) * b.length+y).toNat=x * b.length+y:=by
    rw[show ((x:Int) * b.length+y)=((x * b.length+y:Nat):Int) by simp,gD]
  rw[e]
  by_cases hj:j<a.length * b.length
  · rw[D3 _ _ _ hj,o1,o2,← Bool.decide_and]
    have SF:=Nat.div_add_mod j b.length
    have Kh:=Nat.mod_lt j (show 0<b.length by omega)
    refine decide_eq_decide.2 ⟨fun ⟨h1,h2⟩=>?_,fun h=>?_⟩
    · rw[h1,h2,pZ] at SF;exact SF.symm
    · rw[h,pZ x,Nat.mul_add_div (by omega),JG hy,JF,B6 hy]
      exact⟨rfl,rfl⟩
  · rw[aA,eS (by rw[HP];omega),Option.getD_none,decide_eq_false]
    intro h
    have h3:(x+1) * b.length≤a.length * b.length:=Nat.mul_le_mul_right _ hx
    rw[fj,pX] at h3
    omega
theorem SG {m:aj} {plan:List Int} (hm:VM m) (hp:FP m plan) (left:List (List Bool)) (hf:eG m left) (ei:vM m left plan) (l:List Mv) (hl:∀ x∈l,o6 m x=true) :
    nh m left (mK m l (S0 m,T0 m))≤iF (gQ m plan) 0:=by
  have P:=parts hm hp left l hl
  generalize mK m l (S0 m,T0 m)=g at *
  rw[P.aX]
  have ha:=P.a
  have hb:=P.b
  have hc:=P.c
  have fH:=P.ps
  have SH:=abA m left g
  by_cases hF:1099511627776≤bj (kL m plan) m.cls.length+bj (fun i=>jm m plan (m.ae.getD i default)) m.ae.length+bj (fun i=>g9 plan (m.au.getD i default)) m.au.length
  · omega
  have e1:∀ i,i<m.cls.length→(td left g i).2=true∧(td left g i).1≤(kM plan g i).1:=fun i hi=>by
    have:=ha.2 i hi
    exact HK _ _ _ _ (P.sl i hi) (ei i hi) (by show (kM plan g i).2=false;rw[P.sf i hi,decide_eq_false (by omega)])
  have e2:∀ i,i<m.ae.length→(te m left g i).2=true∧(te m left g i).1≤(kN m plan g i).1:=fun i hi=>by
    have:=hb.2 i hi
    exact HK _ _ _ _ (P.tl i hi) (abH hm hp hf ei hi) (by show (kN m plan g i).2=false;rw[P.tf i hi,decide_eq_false (by omega)])
  have e3:∀ i,i<m.au.length→(pM m left i).2=true∧(pM m left i).1≤g9 plan (m.au.getD i default):=fun i hi=>by
    have h1:=hc.2 i hi
    have pL:=hm.ct _ (aC (l:=m.au) (i:=i) (d:=default) hi)
    have h2:=least_le hm hp hf ei pL
    refine⟨?_,h2⟩
    unfold pM
    dsimp only
    cases hz:(decide ((m.au.getD i default).bL=1099511627776) && decide (0<oa left (m.au.getD i default))) with
    | false=>rfl
    | true =>
      exfalso
      rw[bk,decide_eq_true_eq,decide_eq_true_eq] at hz
      have h3:g9 plan (m.au.getD i default)=1099511627776:=by
        unfold g9 at h2 ⊢
        rw[hz.1] at h2 ⊢
        exact SA (by omega)
      omega
  rw[So]
  · have s1:=Ba m.cls.length fun i hi=>(e1 i hi).2
    have s2:=Ba m.ae.length fun i hi=>(e2 i hi).2
    have s3:=Ba m.au.length fun i hi=>(e3 i hi).2
    unfold A9
    unfold uy at fH
    omega
  · rintro (⟨i,hi,h⟩ | ⟨i,hi,h⟩ | ⟨i,hi,h⟩)
    · rw[(e1 i hi).1] at h;cases h
    · rw[(e2 i hi).1] at h;cases h
    · rw[(e3 i hi).1] at h;cases h
theorem abJ {m:aj} {plan:List Int} (hm:VM m) (hp:FP m plan) (left:List (List Bool)) (hf:eG m left) (jd:zb m left plan) (l:List Mv) (hl:∀ x∈l,o6 m x=true) :
    nh m left (mK m l (S0 m,T0 m))=iF (gQ m plan) 0:=by
  have P:=parts hm hp left l hl
  generalize mK m l (S0 m,T0 m)=g at *
  rw[P.aX]
  have ha:=P.a
  have hb:=P.b
  have hc:=P.c
  have fH:=P.ps
  have e1:∀ i,i<m.cls.length→td left g i=if (kM plan g i).2=false then ((kM plan g i).1,true) else (0,false):=fun i hi =>
    HL _ _ _ _ (P.sl i hi) (jd i hi) rfl
  have e2:∀ i,i<m.ae.length→te m left g i=if (kN m plan g i).2=false then ((kN m plan g i).1,true) else (0,false):=fun i hi =>
    HL _ _ _ _ (P.tl i hi) (abI hm hp hf jd hi) rfl
  have e3:∀ i,i<m.au.length→oa left (m.au.getD i default)=g9 plan (m.au.getD i default):=fun i hi =>
    abD hm hp hf jd (hm.ct _ (aC hi))
  by_cases hN:HN m left g
  · rw[abz hN]
    rcases hN with ⟨i,hi,h⟩ | ⟨i,hi,h⟩ | ⟨i,hi,h⟩
    · rw[e1 i hi,P.sf i hi] at h
      have:=ha.2 i hi
      by_cases hx:1099511627776≤kL m plan i
      · omega
      · rw[decide_eq_false hx,if_pos rfl] at h;cases h
    · rw[e2 i hi,P.tf i hi] at h
      have:=hb.2 i hi
      by_cases hx:1099511627776≤jm m plan (m.ae.getD i default)
      · omega
      · rw[decide_eq_false hx,if_pos rfl] at h;cases h
    · have h1:=hc.2 i hi
      unfold pM at h
      dsimp only at h
      rw[e3 i hi,Bool.not_eq_false',bk,decide_eq_true_eq,decide_eq_true_eq] at h
      have h3:g9 plan (m.au.getD i default)=1099511627776:=by
        obtain ⟨h4,h5⟩:=h
        unfold g9 at h5 ⊢
        rw[h4] at h5 ⊢
        exact SA h5
      omega
  · rw[So hN]
    congr 1
    rw[← fH]
    unfold A9 uy
    congr 1
    · congr 1
      · refine jD _ fun i hi=>?_
        rw[e1 i hi]
        split
        · rfl
        · rename_i h
          exact absurd (.inl ⟨i,hi,by rw[e1 i hi,if_neg h]⟩) hN
      · refine jD _ fun i hi=>?_
        rw[e2 i hi]
        split
        · rfl
        · rename_i h
          exact absurd (.inr (.inl ⟨i,hi,by rw[e2 i hi,if_neg h]⟩)) hN
    · exact jD _ fun i hi=>e3 i hi
def iS:List Int→List Bool→Int→Int
  | x::r,b::s,n=>iS r s (if b=true then min n x else n)
  | _,_,n=>n
def rM (az:List Int) (w i:Nat) (a:Bool):Nat→List Bool→Int→Int
  | _,[],n=>n
  | k,b::r,n=>rM az w i a (k+1) r (if a=true∧b=true then min n (az.getD (i * w+k) 0) else n)
def qG (az:List Int) (w:Nat) (rb:List Bool):Nat→List Bool→Int→Int
  | _,[],n=>n
  | i,a::r,n=>qG az w rb (i+1) r (rM az w i a 0 rb n)
def n6 (m:aj) (left:List (List Bool)) (p:Pr):Int:=qG p.az (m.cls.getD p.snd.toNat default).length (left.getD p.snd.toNat default) 0 (left.getD p.fst.toNat default) 1099511627776
def nY:List Bool→Int→Int
  | [],n=>n
  | b::r,n=>nY r (if b=true then n+1 else n)
def kl (c:Int) (row:List Bool):List Ld→Int × Int→Int × Int
  | [],z=>z
  | x::r,z=>kl c row r (if x.cls=c∧row.getD x.opt.toNat false=true then (z.1 - 1,if z.2<0∨x.wt<z.2 then x.wt else z.2) else z)
def nX (l:List Ld) (c:Int) (row:List Bool):Int:=if 0<(kl c row l (nY row 0,-1)).1∨(kl c row l (nY row 0,-1)).2<0 then 0 else (kl c row l (nY row 0,-1)).2
def pK (l:List Ld) (left:List (List Bool)):Option Int→List Ld→Int→Int
  | _,[],n=>n
  | q,x::r,n=>pK l left (some x.cls) r (if q=some x.cls then n else n+nX l x.cls (left.getD x.cls.toNat default))
def w9 (n bL:Int):Int:=if 0<n∧bL=1099511627776 then 1099511627776 else min (n * bL) 1099511627776
def m8 (left:List (List Bool)) (c:Ct):Int:=w9 (max (pK c.aS left none c.aS (-c.most)) 0) c.bL
def mc (left:List (List Bool)):Nat→List (List bx)→Int→Option Int
  | _,[],n=>some n
  | i,c::r,n=>if iS (jL c) (left.getD i default) 1099511627776=1099511627776 then none else mc left (i+1) r (n+iS (jL c) (left.getD i default) 1099511627776)
def mI (m:aj) (left:List (List Bool)):List Pr→Int→Option Int
  | [],n=>some n
  | p::r,n=>if n6 m left p=1099511627776 then none else mI m left r (n+n6 m left p)
def me (left:List (List Bool)):List Ct→Int→Option Int
  | [],n=>some n
  | c::r,n=>if m8 left c=1099511627776 then none else me left r (n+m8 left c)
def zc:Option Int→Int
  | none=>1099511627776
  | some n=>min n 1099511627776
def vz (m:aj) (left:List (List Bool)):Option Int→Option Int
  | none=>none
  | some n=>me left m.au n
def vy (m:aj) (left:List (List Bool)):Option Int→Option Int
  | none=>none
  | some n=>mI m left m.ae n
def dN (m:aj) (left:List (List Bool)):Int:=zc (vz m left (vy m left (mc left 0 m.cls 0)))
def tg (q:Int × Bool):Int:=if q.2=true then q.1 else 1099511627776
theorem HQ:∀ (l:List Int) (s:List Bool) (b:Int × Bool),(∀ x∈l,bF x)→(b.2=true→b.1<1099511627776) →
    tg (fx (hJ l) s b)=iS l s (tg b)∧((fx (hJ l) s b).2=true→(fx (hJ l) s b).1<1099511627776)
  | [],s,b,_,hb=>⟨by cases s<;>rfl,hb⟩
  | x::r,[],b,_,hb=>⟨rfl,hb⟩
  | x::r,is::s,b,h,hb=>by
    have hx:=h x (by simp)
    unfold bF at hx
    rw[show hJ (x::r)=gz x::hJ r from rfl,fx,iS]
    have key:tg (if is=true∧(gz x).2=false∧(b.2=false∨(gz x).1<b.1) then ((gz x).1,true) else b)=(if is=true then min (tg b) x else tg b):=by
      obtain ⟨b1,b2⟩:=b
      unfold gz tg
      dsimp only at hb ⊢
      cases is<;>cases b2<;>simp at hb ⊢<;>(repeat' split)<;>simp_all<;>omega
    have:=HQ r s (if is=true∧(gz x).2=false∧(b.2=false∨(gz x).1<b.1) then ((gz x).1,true) else b) (fun y hy=>h y (by simp[hy])) (by
      split
      · rename_i hc
        intro _
        have:=hc.2.1
        unfold gz at this ⊢
        simp at this;exact this
      · exact hb)
    rw[key] at this
    exact this
theorem SI:∀ (l:List Int) (s t:List Bool) (n:Int),s.length≤l.length→iS l (s++t) n=iS (l.drop s.length) t (iS l s n)
  | l,[],t,n,_=>by cases l<;>rfl
  | [],b::s,t,n,h=>by simp at h
  | x::r,b::s,t,n,h=>by
    rw[List.cons_append,iS,iS,dH,List.drop_succ_cons]
    exact SI r s t _ (by simpa using h)
theorem SJ (az:List Int) (w i:Nat) (a:Bool):∀ (r:List Bool) (k:Nat) (n:Int),i * w+k+r.length≤az.length→rM az w i a k r n=iS (az.drop (i * w+k)) (r.map (a && ·)) n
  | [],k,n,_=>by cases (az.drop (i * w+k))<;>rfl
  | b::r,k,n,h=>by
    have bw:i * w+k<az.length:=by simp at h;omega
    have hd:az.drop (i * w+k)=az.getD (i * w+k) 0::az.drop (i * w+(k+1)):=by
      rw[List.drop_eq_getElem_cons bw,aA,bX bw];rfl
    rw[rM,hd,dO,iS,SJ az w i a r (k+1) _ (by simp at h;omega)]
    congr 1
    cases a<;>cases b<;>simp
theorem Hf (az:List Int) (w:Nat) (rb:List Bool) (hw:rb.length=w):∀ (r:List Bool) (i:Nat) (n:Int),i * w+r.length * w≤az.length→qG az w rb i r n=iS (az.drop (i * w)) (uu r rb) n
  | [],i,n,_=>by show n=iS _ [] n;cases (az.drop (i * w))<;>rfl
  | a::r,i,n,h=>by
    have h2:i * w+(r.length+1) * w≤az.length:=h
    rw[fj,pX] at h2
    rw[qG,SJ az w i a rb 0 n (by omega),Hf az w rb hw r (i+1) _ (by rw[fj];omega)]
    show _=iS _ (rb.map (a && ·)++uu r rb) n
    rw[SI _ _ _ _ (by rw[ey,List.length_drop];omega),List.drop_drop,ey,hw,fj,pX]
    simp only[jr]
def jb:List (Int × Bool)→Int→Option Int
  | [],n=>some n
  | p::r,n=>if p.2=false then none else jb r (n+p.1)
theorem Ec:∀ (l:List (Int × Bool)) (n:Int),jb l n=if (cN l (n,false)).2=true then none else some (cN l (n,false)).1
  | [],n=>rfl
  | p::r,n=>by
    rw[jb]
    obtain ⟨a,b⟩:=p
    cases b
    · show none=if (cN r (n+a,true)).2=true then none else _
      rw[A5,if_pos rfl]
    · exact Ec r (n+a)
theorem SK {m:aj} (hm:VM m) (left:List (List Bool)):∀ (k i:Nat) (n:Int),i+k=m.cls.length→mc left i (m.cls.drop i) n=jb ((mn i k).map fun j=>fx ((S0 m).getD j default) (left.getD j default) (0,false)) n
  | 0,i,n,h=>by rw[cB (by omega)];rfl
  | k+1,i,n,h=>by
    have hi:i<m.cls.length:=by omega
    have hs:(S0 m).getD i default=hJ (jL (m.cls.getD i default)):=by rw[S0,iG _ _ _ hi]
    have h2:=HQ (jL (m.cls.getD i default)) (left.getD i default) (0,false) (fun x hx=>by
      obtain ⟨o,ho,rfl⟩:=ca.1 hx
      exact AR (hm.kI _ (aC hi) o ho)) (by simp)
    rw[show tg (0,false)=1099511627776 from rfl] at h2
    rw[cA m.cls i default hi,mc,uJ,dO,jb,SK hm left k (i+1) _ (by omega),hs,← h2.1]
    generalize fx (hJ (jL (m.cls.getD i default))) (left.getD i default) (0,false)=q at *
    obtain ⟨a,b⟩:=q
    unfold tg at *
    cases b<;>simp at h2 ⊢
    intro e;omega
theorem SL {m:aj} (hm:VM m) {left:List (List Bool)} (hf:eG m left):∀ (k i:Nat) (n:Int),i+k=m.ae.length→mI m left (m.ae.drop i) n=jb ((mn i k).map fun j=>fx ((T0 m).getD j default) (kP m left j) (0,false)) n
  | 0,i,n,h=>by rw[cB (by omega)];rfl
  | k+1,i,n,h=>by
    have hi:i<m.ae.length:=by omega
    have hs:(T0 m).getD i default=hJ (m.ae.getD i default).az:=by rw[T0,iG _ _ _ hi]
    have dG:=jh hm.pr _ (aC (d:=default) hi)
    obtain ⟨_,p1,p2,p3,p4⟩:=kJ dG
    have f1:=hf.2 (m.ae.getD i default).fst.toNat (by rw[hf.1];omega)
    have f2:=hf.2 (m.ae.getD i default).snd.toNat (by rw[hf.1];omega)
    have h2:=HQ (m.ae.getD i default).az (kP m left i) (0,false) (DH dG) (by simp)
    rw[show tg (0,false)=1099511627776 from rfl] at h2
    have h3:n6 m left (m.ae.getD i default)=iS (m.ae.getD i default).az (kP m left i) 1099511627776:=by
      unfold n6 kP
      rw[Hf _ _ _ f2 _ 0 _ (by rw[zD,fi,f1];have:=p4;exact_mod_cast Int.le_of_eq this.symm),zD,uO]
    rw[cA m.ae i default hi,mI,uJ,dO,jb,SL hm hf k (i+1) _ (by omega),hs,h3,← h2.1]
    generalize fx (hJ (m.ae.getD i default).az) (kP m left i) (0,false)=q at *
    obtain ⟨a,b⟩:=q
    unfold tg at *
    cases b<;>simp at h2 ⊢
    intro e;omega
theorem HR (l:List Ld) (c:Int):∀ (row:List Bool) (o:Nat) (b:Int),jC l c o row b=b∨∃ i,row.getD i false=true∧jC l c o row b=jB l c (o+i:Nat) 0
  | [],_,_=>.inl rfl
  | is::r,o,b=>by
    rw[jC]
    split
    · rename_i hc
      rcases HR l c r (o+1) (jB l c o 0) with h | ⟨i,h1,h2⟩
      · exact .inr ⟨0,by simpa using hc.1,by rw[h];rfl⟩
      · exact .inr ⟨i+1,by simpa using h1,by rw[h2,show o+1+i=o+(i+1) by omega]⟩
    · rcases HR l c r (o+1) b with h | ⟨i,h1,h2⟩
      · exact .inl h
      · exact .inr ⟨i+1,by simpa using h1,by rw[h2,show o+1+i=o+(i+1) by omega]⟩
theorem SM {l:List Ld} (h:∀ x∈l,1≤x.wt∧x.wt≤1000) (c:Int):∀ (row:List Bool) (o:Nat) (b:Int) (i:Nat),row.getD i false=true→0≤jC l c o row b
  | [],_,b,i,hi=>by simp at hi
  | is::r,o,b,0,hi=>by
    rw[gb] at hi
    have hw:=yW h c o 0 (by omega)
    rw[jC]
    split
    · exact (za h c r (o+1) _ hw.1).1
    · rename_i hc
      have hb:0≤b:=by
        rcases Ca b 0 with h2 | h2
        · exact absurd ⟨hi,.inl h2⟩ hc
        · exact h2
      exact (za h c r (o+1) b hb).1
  | is::r,o,b,i+1,hi=>by
    rw[eJ] at hi
    rw[jC]
    exact SM h c r (o+1) _ i hi
theorem SN {f:Nat→Int}:∀ {n:Nat},(∀ i<n,0≤f i)→(0≤bj f n∧(0<bj f n↔∃ i,i<n∧0<f i))
  | 0,_=>by simp[bj]
  | n+1,h=>by
    obtain ⟨h1,h2⟩:=SN (n:=n) fun i hi=>h i (by omega)
    have h3:=h n (by omega)
    rw[bj]
    refine⟨by omega,fun h4=>?_,?_⟩
    · by_cases h5:0<bj f n
      · obtain ⟨i,hi,hf⟩:=h2.1 h5;exact⟨i,by omega,hf⟩
      · exact⟨n,by omega,by omega⟩
    · rintro ⟨i,hi,hf⟩
      by_cases e:i=n
      · subst e;omega
      · have:=h2.2 ⟨i,by omega,hf⟩;omega
theorem SO (f g:Nat→Int):∀ n,bj f n - bj g n=bj (fun i=>f i - g i) n
  | 0=>rfl
  | n+1=>by rw[bj,bj,bj,← SO f g n];omega
theorem SP:∀ (row:List Bool) (n:Int),nY row n=n+bj (fun o=>if row.getD o false=true then 1 else 0) row.length
  | [],n=>by simp[nY,bj]
  | b::r,n=>by
    rw[nY,SP r,dH,xe]
    simp only[gb,eJ]
    split<;>omega
theorem HS {m:aj} {q:Option Ld} {x:Ld} {r:List Ld} (h:dx m q (x::r)=true):dx m (some x) r=true:=by
  cases q<;>rw[dx] at h<;>simp only[bk] at h<;>exact h.2
open Classical in
theorem SQ {m:aj} (c:Int) (row:List Bool):∀ {l:List Ld} {q:Option Ld},dx m q l=true→∀ z:Int × Int,
    (kl c row l z).1=z.1 - bj (fun o=>if row.getD o false=true∧∃ x∈l,x.cls=c∧x.opt=(o:Int) then 1 else 0) row.length
  | [],_,_,z=>by
    rw[jD (g:=fun _=>0) _ fun i _=>by simp]
    have:∀ n,bj (fun _=>0) n=0:=fun n=>by induction n with | zero=>rfl | succ n ih=>rw[bj,ih];rfl
    rw[this,kl];omega
  | x::r,q,h,z=>by
    have hr:=HS h
    have hx:=(fZ.1 (nZ h x (by simp)).1).2.2.1
    rw[kl,SQ c row hr]
    by_cases hc:x.cls=c∧row.getD x.opt.toNat false=true
    · rw[if_pos hc]
      have hk:x.opt.toNat<row.length:=by
        rcases eF x.opt.toNat row.length with h' | h'
        · exact h'
        · rw[aA,eS h'] at hc;simp at hc
      rw[jD (f:=fun o=>if row.getD o false=true∧∃ y∈x::r,y.cls=c∧y.opt=(o:Int) then 1 else 0) (g:=fun o=>if o=x.opt.toNat then (if row.getD o false=true∧∃ y∈r,y.cls=c∧y.opt=(o:Int) then 1 else 0)+1 else (if row.getD o false=true∧∃ y∈r,y.cls=c∧y.opt=(o:Int) then 1 else 0)) _ fun o _=>by
        by_cases e:o=x.opt.toNat
        · subst e
          rw[if_pos ⟨hc.2,x,by simp,hc.1,by omega⟩,if_pos rfl,if_neg (by rintro ⟨_,y,hy,h1,h2⟩;have:=vL hr y hy;omega)];rfl
        · rw[if_neg e]
          congr 1
          rw[eq_iff_iff]
          refine and_congr_right fun _=>⟨?_,fun ⟨y,hy,h1⟩=>⟨y,by simp[hy],h1⟩⟩
          rintro ⟨y,hy,h1,h2⟩
          rcases cu.1 hy with rfl | hy
          · omega
          · exact⟨y,hy,h1,h2⟩,yX,if_pos hk]
      dsimp only;omega
    · rw[if_neg hc]
      rw[jD (f:=fun o=>if row.getD o false=true∧∃ y∈x::r,y.cls=c∧y.opt=(o:Int) then 1 else 0) (g:=fun o=>if row.getD o false=true∧∃ y∈r,y.cls=c∧y.opt=(o:Int) then 1 else 0) _ fun o _=>by
        congr 1
        rw[eq_iff_iff]
        refine and_congr_right fun hro=>⟨?_,fun ⟨y,hy,h1⟩=>⟨y,by simp[hy],h1⟩⟩
        rintro ⟨y,hy,h1,h2⟩
        rcases cu.1 hy with rfl | hy
        · exact absurd ⟨h1,by rw[h2,gD];exact hro⟩ hc
        · exact⟨y,hy,h1,h2⟩]
theorem SR (c:Int) (row:List Bool):∀ {l:List Ld},(∀ x∈l,1≤x.wt)→∀ z:Int × Int,
    (∀ x∈l,x.cls=c∧row.getD x.opt.toNat false=true→0≤(kl c row l z).2∧(kl c row l z).2≤x.wt)∧(0≤z.2→0≤(kl c row l z).2∧(kl c row l z).2≤z.2) ∧
      ((kl c row l z).2=z.2∨∃ x∈l,(x.cls=c∧row.getD x.opt.toNat false=true)∧(kl c row l z).2=x.wt)
  | [],_,z=>⟨by simp,fun h=>⟨h,dE _⟩,.inl rfl⟩
  | x::r,h,z=>by
    obtain ⟨h1,h2,h3⟩:=SR c row (l:=r) (fun y hy=>h y (by simp[hy])) (if x.cls=c∧row.getD x.opt.toNat false=true then (z.1 - 1,if z.2<0∨x.wt<z.2 then x.wt else z.2) else z)
    have hx:=h x (by simp)
    rw[kl]
    generalize kl c row r _=w at *
    by_cases hc:x.cls=c∧row.getD x.opt.toNat false=true
    · rw[if_pos hc] at h2 h3
      dsimp only at h2 h3
      refine⟨fun y hy wN=>?_,fun hz=>?_,?_⟩
      · rcases cu.1 hy with rfl | hy
        · split at h2<;>omega
        · exact h1 y hy wN
      · split at h2<;>omega
      · rcases h3 with h3 | ⟨y,hy,h3⟩
        · split at h3
          · exact .inr ⟨x,by simp,hc,h3⟩
          · exact .inl h3
        · exact .inr ⟨y,by simp[hy],h3⟩
    · rw[if_neg hc] at h2 h3
      refine⟨fun y hy wN=>?_,h2,?_⟩
      · rcases cu.1 hy with rfl | hy
        · exact absurd wN hc
        · exact h1 y hy wN
      · rcases h3 with h3 | ⟨y,hy,h3⟩
        · exact .inl h3
        · exact .inr ⟨y,by simp[hy],h3⟩
theorem HT {m:aj}:∀ {l:List Ld} {q:Option Ld},dx m q l=true→∀ x∈l,∀ w,jB l x.cls x.opt w=x.wt
  | [],_,_,x,hx,w=>by simp at hx
  | y::r,q,h,x,hx,w=>by
    have hr:=HS h
    rw[jB]
    rcases cu.1 hx with rfl | hx
    · rw[if_pos ⟨rfl,rfl⟩]
      exact Ea r _ _ _ fun z hz he=>by have:=vL hr z hz;omega
    · exact HT hr x hx _
open Classical in
theorem abL {m:aj} {l:List Ld} {q:Option Ld} (hl:dx m q l=true) (c:Int) (row:List Bool):nX l c row=n9 l c row:=by
  have hw:∀ x∈l,1≤x.wt∧x.wt≤1000:=fun x hx=>(nZ hl x hx).2
  have h1:=SQ c row hl (nY row 0,-1)
  obtain ⟨h2,_,h3⟩:=SR c row (fun x hx=>(hw x hx).1) (nY row 0,-1)
  unfold nX
  generalize kl c row l (nY row 0,-1)=z at *
  rw[SP,wg,SO] at h1
  obtain ⟨h4,h5⟩:=SN (f:=fun i=>(if row.getD i false=true then (1:Int) else 0) - if row.getD i false=true∧∃ x∈l,x.cls=c∧x.opt=(i:Int) then 1 else 0) (n:=row.length) fun i _=>by
    (repeat' split)<;>simp_all
  rw[← h1] at h4 h5
  have hlen:∀ i,row.getD i false=true→i<row.length:=fun i h'=>by
    rcases eF i row.length with h6 | h6
    · exact h6
    · rw[aA,eS h6] at h';simp at h'
  have vG:∀ x∈l,0≤x.opt:=fun x hx=>(fZ.1 (nZ hl x hx).1).2.2.1
  by_cases hex :∃o,row.getD o false=true∧¬∃x∈l,x.cls=c∧x.opt=(o:Int)
  · obtain ⟨o,ho,u5⟩:=hex
    rw[if_pos (.inl (h5.2 ⟨o,hlen o ho,by rw[if_pos ho,if_neg (by rintro ⟨_,h'⟩;exact u5 h')];decide⟩))]
    have h6:=Eb hw c row 0 (-1) o ho
    rw[fi,Ea l c o 0 fun y hy he=>u5 ⟨y,hy,he⟩] at h6
    unfold n9;omega
  have kQ:∀ o,row.getD o false=true→∃ x∈l,x.cls=c∧x.opt=(o:Int):=fun o ho=>Classical.byContradiction fun h'=>hex ⟨o,ho,h'⟩
  have hz:¬ 0<z.1:=fun h'=>by
    obtain ⟨i,hi,h6⟩:=h5.1 h'
    by_cases hr:row.getD i false=true
    · rw[if_pos hr,if_pos ⟨hr,kQ i hr⟩] at h6;omega
    · rw[if_neg hr,if_neg (fun h7=>hr h7.1)] at h6;omega
  by_cases uq :∃o,row.getD o false=true
  · obtain ⟨o,ho⟩:=uq
    obtain ⟨x,hx,rB,tc⟩:=kQ o ho
    obtain ⟨g1,g2⟩:=h2 x hx ⟨rB,by rw[tc,gD];exact ho⟩
    rw[if_neg (by omega)]
    have g3:=SM hw c row 0 (-1) o ho
    unfold n9
    rw[Int.max_eq_left g3]
    refine Int.le_antisymm ?_ ?_
    · rcases HR l c row 0 (-1) with e | ⟨i,hi,e⟩
      · omega
      · obtain ⟨y,hy,oM,SS⟩:=kQ i hi
        rw[e,fi,← SS,← oM,HT hl y hy]
        exact (h2 y hy ⟨oM,by rw[SS,gD];exact hi⟩).2
    · rcases h3 with e | ⟨y,hy,⟨oM,HU⟩,e⟩
      · dsimp only at e;omega
      · have h6:=Eb hw c row 0 (-1) _ HU
        rw[fi,po (vG y hy),← oM,HT hl y hy] at h6
        rw[← oM];omega
  · have e:z.2 = -1:=by
      rcases h3 with e | ⟨y,hy,⟨oM,HU⟩,e⟩
      · exact e
      · exact absurd ⟨_,HU⟩ uq
    rw[if_pos (.inr (by omega)),n9,HO l c row 0 (-1) fun i=>by
      cases h':row.getD i false with
      | false=>rfl
      | true=>exact absurd ⟨i,h'⟩ uq]
    rfl
open Classical in
theorem SU {m:aj} (L:List Ld) (left:List (List Bool)) {N:Nat} (hN:m.cls.length≤N):∀ {r:List Ld} {q:Option Ld},dx m q r=true→∀ n:Int,
    pK L left (q.map (·.cls)) r n=n+bj (fun j=>if (∃ x∈r,x.cls=(j:Int))∧q.map (·.cls)≠some (j:Int) then nX L j (left.getD j default) else 0) N
  | [],_,_,n=>by
    rw[jD (g:=fun _=>0) _ fun i _=>by simp]
    have:∀ n,bj (fun _=>0) n=0:=fun n=>by induction n with | zero=>rfl | succ n ih=>rw[bj,ih];rfl
    rw[this,pK];omega
  | x::r,q,h,n=>by
    have hr:=HS h
    obtain ⟨hx0,hx1,_⟩:=fZ.1 (nZ h x (by simp)).1
    have h0:=SU L left hN hr
    simp only[gf] at h0
    rw[pK,h0]
    by_cases hq:q.map (·.cls)=some x.cls
    · rw[if_pos hq,hq]
      congr 1
      refine jD _ fun j _=>?_
      congr 1
      rw[eq_iff_iff]
      simp only[ne_eq,cY.injEq]
      refine and_congr_left fun hj=>⟨fun ⟨y,hy,e⟩=>⟨y,by simp[hy],e⟩,?_⟩
      rintro ⟨y,hy,e⟩
      rcases cu.1 hy with rfl | hy
      · exact absurd e hj
      · exact⟨y,hy,e⟩
    · rw[if_neg hq,jD (f:=fun j=>if (∃ y∈x::r,y.cls=(j:Int))∧q.map (·.cls)≠some (j:Int) then nX L j (left.getD j default) else 0)
        (g:=fun j=>if j=x.cls.toNat then (if (∃ y∈r,y.cls=(j:Int))∧some x.cls≠some (j:Int) then nX L j (left.getD j default) else 0)+nX L x.cls (left.getD x.cls.toNat default) else (if (∃ y∈r,y.cls=(j:Int))∧some x.cls≠some (j:Int) then nX L j (left.getD j default) else 0)) _ fun j _=>by
        have Ed:((x.cls.toNat:Nat):Int)=x.cls:=po hx0
        by_cases e:j=x.cls.toNat
        · subst e
          rw[if_pos ⟨⟨x,by simp,Ed.symm⟩,by rw[Ed];exact hq⟩,if_pos rfl,if_neg (by rw[Ed];simp),Ed];omega
        · rw[if_neg e]
          congr 1
          rw[eq_iff_iff]
          constructor
          · rintro ⟨⟨y,hy,HV⟩,_⟩
            rcases cu.1 hy with rfl | hy
            · omega
            · exact⟨⟨y,hy,HV⟩,by simp only[ne_eq,cY.injEq];omega⟩
          · rintro ⟨⟨y,hy,HV⟩,_⟩
            refine⟨⟨y,by simp[hy],HV⟩,fun SV=>?_⟩
            cases q with
            | none=>simp at SV
            | some q =>
              have h6:=vL h y (by simp[hy])
              have h7:=vL h x (by simp)
              have h8:=vL hr y hy
              simp only[gf,cY.injEq] at SV hq
              omega,yX,if_pos (by omega)]
      omega
theorem abM {m:aj} (hm:VM m) {left:List (List Bool)} (hf:eG m left) {c:Ct} (hc:fY m c=true) :
    m8 left c=oa left c∧(m8 left c=1099511627776↔(decide (c.bL=1099511627776) && decide (0<oa left c))=true):=by
  obtain ⟨_,q2,q3,q4⟩:=lj hc
  have hw:∀ x∈c.aS,1≤x.wt∧x.wt≤1000:=fun x hx=>(nZ q4 x hx).2
  have hs:pK c.aS left none c.aS (-c.most) = -c.most+rQ c.aS 0 left 0:=by
    have:=SU (m:=m) c.aS left (Nat.le_refl _) (q:=none) q4 (-c.most)
    rw[Option.map_none] at this
    rw[this,yY,wg,hf.1]
    congr 1
    refine jD _ fun j _=>?_
    rw[fi]
    split
    · exact abL q4 _ _
    · rename_i hn
      rw[RQ fun x hx e=>hn ⟨⟨x,hx,e⟩,by simp⟩]
  have hr:=aaR hw left
  have vA:=hm.cls
  rw[hf.1] at hr
  unfold m8 oa
  rw[hs]
  generalize rQ c.aS 0 left 0=s at *
  unfold w9 jk
  unfold iR at q3
  rw[decide_eq_true_eq] at q3
  by_cases h0:s≤c.most
  · rw[Int.max_eq_right (by omega),if_neg (by omega),if_pos h0]
    simp<;>omega
  rw[Int.max_eq_left (by omega),if_neg h0,show -c.most+s=s - c.most by omega]
  rcases q3 with q3 | q3
  · rw[if_neg (by omega)]
    have h1:(s - c.most) * c.bL≤24000 * 1048576:=Int.mul_le_mul (by omega) (by omega) (by omega) (by omega)
    refine⟨rfl,?_⟩
    rw[decide_eq_false (by omega:¬ c.bL=1099511627776),Bool.false_and]
    constructor
    · intro h;omega
    · intro h;simp at h
  · rw[q3,if_pos ⟨by omega,rfl⟩,show min ((s - c.most) * 1099511627776) 1099511627776=(1099511627776:Int) by omega]
    simp
theorem SW {m:aj} (hm:VM m) {left:List (List Bool)} (hf:eG m left):∀ (k i:Nat) (n:Int),i+k=m.au.length→me left (m.au.drop i) n=jb ((mn i k).map fun j=>pM m left j) n
  | 0,i,n,h=>by rw[cB (by omega)];rfl
  | k+1,i,n,h=>by
    have hi:i<m.au.length:=by omega
    obtain ⟨h1,h2⟩:=abM hm hf (hm.ct _ (aC (d:=default) hi))
    rw[cA m.au i default hi,me,uJ,dO,jb,SW hm hf k (i+1) _ (by omega)]
    unfold pM
    dsimp only
    rw[h1] at h2 ⊢
    by_cases h3:oa left (m.au.getD i default)=1099511627776
    · rw[if_pos h3,h2.1 h3];rfl
    · rw[if_neg h3]
      cases hb:(decide ((m.au.getD i default).bL=1099511627776) && decide (0<oa left (m.au.getD i default))) with
      | true=>exact absurd (h2.2 hb) h3
      | false=>rfl
theorem Bb {m:aj} (hm:VM m) {left:List (List Bool)} (hf:eG m left):dN m left=nh m left (S0 m,T0 m):=by
  have h1:=SK hm left m.cls.length 0 0 (by omega)
  have h2:=fun n=>SL hm hf m.ae.length 0 n (by omega)
  have h3:=fun n=>SW hm hf m.au.length 0 n (by omega)
  simp only[uO,← List.range_eq_range'] at h1 h2 h3
  unfold dN nh
  rw[h1]
  show zc (vz m left (vy m left (jb (PC left (S0 m) m.cls.length) 0)))=_
  have h2':∀ n,mI m left m.ae n=jb (PP m left (T0 m) m.ae.length) n:=h2
  have h3':∀ n,me left m.au n=jb (PK m left m.au.length) n:=h3
  rw[Ec]
  generalize cN (PC left (S0 m) m.cls.length) (0,false)=z
  obtain ⟨a,b⟩:=z
  cases b
  · simp only[vy,h2',Ec,jF,if_false]
    generalize cN (PP m left (T0 m) m.ae.length) (a,false)=z
    obtain ⟨a2,b2⟩:=z
    cases b2
    · simp only[vz,h3',Ec,jF,if_false]
      generalize cN (PK m left m.au.length) (a2,false)=z
      obtain ⟨a3,b3⟩:=z
      cases b3<;>simp[zc]
    · simp only[if_true,vz,zc,A5]
  · simp only[if_true,vy,vz,zc]
    have:∀ l n,(cN l (n,true))=((cN l (n,true)).1,true):=fun l n=>Prod.ext rfl (A5 l n)
    rw[this,this (PK m left m.au.length)]
    rfl
end T

