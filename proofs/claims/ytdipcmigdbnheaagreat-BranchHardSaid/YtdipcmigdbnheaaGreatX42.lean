import Derived.Test.YtdipcmigdbnheaaGreatX35
import Derived.Test.YtdipcmigdbnheaaGreatX36
set_option linter.unusedVariables false
set_option linter.unusedSimpArgs false
set_option linter.unnecessarySimpa false
set_option linter.unusedSectionVars false
set_option maxHeartbeats 64000000
set_option maxRecDepth 20000
open List renaming getD_eq_getElem?_getD→ay,count_append→qb,take_zero→lx,append_nil→jc,take_length→sy,getElem_of_mem→p9,getElem?_eq_getElem→bI,all_eq_true→fK,take_append_drop→Aw,mem_map→b7
open Int renaming toNat_natCast→eT
open Option renaming bind_eq_some_iff→ve,getD_some→kW
open Bool renaming not_eq_false→Df,true_and→g9
open Nat renaming le_refl→aH
open Go Go.Am
namespace T
abbrev dh:=List (Int × Int)
def dS (up:dh) (j:Nat):Int × Int:=up.getD j default
def yf (n:Nat):dh:=List.replicate n (-1,0)
def yg (up:dh):Nat→Nat→dh
  | 0,_=>[]
  | f+1,k=>if 0≤(dS up k).1 then dS up k::yg up f (dS up k).1.toNat else []
def jX (up:dh) (k:Nat):dh:=yg up (k+1) k
def oI (P:List Nd) (c:Int) (l:dh):Bool:=l.any fun a=>(nd P a.1.toNat).cls == c
def mu (n i:Nat) (kids:List Int) (up:dh):Nat→Option dh
  | 0=>some up
  | o+1=>(mu n i kids up o).bind fun u=>if kl n i (kids.getD o 0)=true∧(dS u (kids.getD o 0).toNat).1<0 then some (u.set (kids.getD o 0).toNat ((i:Int),(o:Int))) else none
def mU (m:ah) (P:List Nd) (i:Nat) (up:dh):Option dh :=
  if 0<i∧(dS up i).1<0 then none
  else if lh m (nd P i)=false then none
  else if (nd P i).cls = -1 then some up
  else if oI P (nd P i).cls (jX up i)=true then none
  else mu P.length i (nd P i).kids up (nd P i).kids.length
def kT (m:ah) (P:List Nd):Nat→Option dh
  | 0=>some (yf P.length)
  | i+1=>(kT m P i).bind (mU m P i)
def lN (m:ah) (P:List Nd):Option dh:=if 1≤P.length∧P.length≤20000 then kT m P P.length else none
theorem Wt {n i:Nat} {kids:List Int} {up:dh} {o:Nat} (h:mu n i kids up o=none):∀ o',o≤o'→mu n i kids up o'=none:=by
  intro o' ho
  induction o' with
  | zero =>
    obtain rfl:o=0:=by omega
    exact h
  | succ q ih =>
    by_cases e:o=q+1
    · subst e;exact h
    · have:=ih (by omega)
      show (mu n i kids up q).bind _=none
      rw[this];rfl
theorem Kb {m:ah} {P:List Nd} {o:Nat} (h:kT m P o=none):∀ o',o≤o'→kT m P o'=none:=by
  intro o' ho
  induction o' with
  | zero =>
    obtain rfl:o=0:=by omega
    exact h
  | succ q ih =>
    by_cases e:o=q+1
    · subst e;exact h
    · have:=ih (by omega)
      show (kT m P q).bind _=none
      rw[this];rfl
structure UI (P:List Nd) (i o:Nat) (up:dh):Prop where
  len:up.length=P.length
  low:∀ j,j<P.length→dS up j=(-1,0)∨∃ p q:Nat,dS up j=((p:Int),(q:Int))∧p<j∧q<(nd P p).kids.length∧(p<i∨p=i∧q<o)
  set:∀ p q,(p<i∨p=i∧q<o)→p<P.length→q<(nd P p).kids.length→∃ j,j<P.length∧p<j∧(nd P p).kids.getD q 0=(j:Int)∧dS up j=((p:Int),(q:Int))
  yh:∀ j:Nat,j<P.length→((eG (P.take i)++(nd P i).kids.take o).count (j:Int)=if 0≤(dS up j).1 then 1 else 0)
theorem Wu (n j:Nat) (h:j<n):dS (yf n) j=(-1,0):=by
  unfold dS yf
  rw[ay,List.getElem?_replicate_of_lt h];rfl
theorem UI.zero (P:List Nd):UI P 0 0 (yf P.length) where
  len:=List.length_replicate
  low j hj:=.inl (Wu _ _ hj)
  set p q h:=by omega
  yh j hj:=by rw[Wu _ _ hj];simp[eG]
theorem FV {up:dh} {k j:Nat} {x:Int × Int} (hk:k<up.length):dS (up.set k x) j=if k=j then x else dS up j:=by
  unfold dS
  rw[ay,List.getElem?_set]
  by_cases e:k=j
  · subst e;rw[if_pos rfl,if_pos hk,if_pos rfl];rfl
  · rw[if_neg e,if_neg e,ay]
theorem UI.zA {P:List Nd} {i o:Nat} {up:dh} (h:UI P i o up) (hi:i<P.length) (ho:o<(nd P i).kids.length)
    (hk:kl P.length i ((nd P i).kids.getD o 0)=true) (hu:(dS up ((nd P i).kids.getD o 0).toNat).1<0) :
    UI P i (o+1) (up.set ((nd P i).kids.getD o 0).toNat ((i:Int),(o:Int))):=by
  unfold kl at hk
  rw[decide_eq_true_eq] at hk
  have km:(nd P i).kids.take (o+1)=(nd P i).kids.take o++[(nd P i).kids.getD o 0]:=eu ho
  generalize iT:(nd P i).kids.getD o 0=k at *
  obtain ⟨kn,rfl⟩ :∃kn:Nat,k=kn:=⟨k.toNat,by omega⟩
  rw[eT] at hu ⊢
  have dx:kn<up.length:=by rw[h.len];omega
  refine⟨by rw[List.length_set];exact h.len,fun j hj=>?_,fun p q JX hp hq=>?_,fun j hj=>?_⟩
  · rw[FV dx]
    by_cases e:kn=j
    · subst e;rw[if_pos rfl]
      exact .inr ⟨i,o,rfl,by omega,ho,.inr ⟨rfl,by omega⟩⟩
    · rw[if_neg e]
      rcases h.low j hj with h1 | ⟨p,q,h1,h2,h3,h4⟩
      · exact .inl h1
      · exact .inr ⟨p,q,h1,h2,h3,by omega⟩
  · by_cases e:p=i∧q=o
    · obtain ⟨rfl,rfl⟩:=e
      exact⟨kn,by omega,by omega,iT,by rw[FV dx,if_pos rfl]⟩
    · obtain ⟨j,h1,h2,h3,h4⟩:=h.set p q (by omega) hp hq
      refine⟨j,h1,h2,h3,?_⟩
      rw[FV dx,if_neg ?_,h4]
      rintro rfl
      rw[h4] at hu
      dsimp only at hu
      omega
  · rw[km,← List.append_assoc,qb,h.yh j hj,FV dx]
    by_cases e:kn=j
    · subst e;rw[if_neg (by omega),if_pos rfl,if_pos (by dsimp only;omega)];simp
    · have hb:((kn:Int) == (j:Int))=false:=by rw[beq_eq_false_iff_ne];omega
      rw[if_neg e,List.count_singleton,hb]
      rfl
theorem Wv {P:List Nd} {i:Nat} (hi:i<P.length):P.take (i+1)=P.take i++[nd P i]:=eu hi
theorem UI.next {P:List Nd} {i:Nat} {up:dh} (h:UI P i (nd P i).kids.length up) (hi:i<P.length):UI P (i+1) 0 up where
  len:=h.len
  low j hj:=by
    rcases h.low j hj with h1 | ⟨p,q,h1,h2,h3,h4⟩
    · exact .inl h1
    · exact .inr ⟨p,q,h1,h2,h3,by omega⟩
  set p q JX hp hq:=h.set p q (by
    by_cases e:p=i
    · subst e;exact .inr ⟨rfl,hq⟩
    · omega) hp hq
  yh j hj:=by
    rw[lx,jc,Wv hi,Ic,← h.yh j hj,sy]
theorem UI.kids {P:List Nd} {i:Nat} (hi:i<P.length) {up:dh} (h:UI P i 0 up):∀ o u,o≤(nd P i).kids.length→mu P.length i (nd P i).kids up o=some u→UI P i o u:=by
  intro o
  induction o with
  | zero=>intro u _ hu;cases hu;exact h
  | succ o ih =>
    intro u ho hu
    unfold mu at hu
    obtain ⟨v,hv,hu⟩:=ve.1 hu
    by_cases hc:kl P.length i ((nd P i).kids.getD o 0)=true∧(dS v ((nd P i).kids.getD o 0).toNat).1<0
    · rw[if_pos hc] at hu
      cases hu
      exact (ih v (by omega) hv).zA hi (by omega) hc.1 hc.2
    · rw[if_neg hc] at hu;cases hu
theorem J6 {m:ah} {x:Nd} (h:lh m x=true) (hc:x.cls = -1):x.kids.length=0:=by
  unfold lh at h
  rw[if_pos hc,decide_eq_true_eq] at h
  exact h.1
theorem UI.node {m:ah} {P:List Nd} {i:Nat} (hi:i<P.length) {up u:dh} (h:UI P i 0 up) (hu:mU m P i up=some u):UI P (i+1) 0 u:=by
  unfold mU at hu
  split at hu
  · cases hu
  split at hu
  · cases hu
  rename_i h1 h2
  rw[Df] at h2
  split at hu
  · rename_i h3
    cases hu
    have:=J6 h2 h3
    refine UI.next ?_ hi
    rw[this];exact h
  split at hu
  · cases hu
  exact (UI.kids hi h _ _ (aH _) hu).next hi
theorem wu {m:ah} {P:List Nd}:∀ i u,i≤P.length→kT m P i=some u→UI P i 0 u:=by
  intro i
  induction i with
  | zero=>intro u _ hu;cases hu;exact UI.zero P
  | succ i ih =>
    intro u hi hu
    unfold kT at hu
    obtain ⟨v,hv,hu⟩:=ve.1 hu
    exact (ih v (by omega) hv).node (by omega) hu
theorem UI.lt {P:List Nd} {i o:Nat} {up:dh} (h:UI P i o up) {k:Nat} (hk:k<P.length) (h0:0≤(dS up k).1):(dS up k).1.toNat<k:=by
  rcases h.low k hk with h1 | ⟨p,q,h1,h2,h3,h4⟩
  · rw[h1] at h0;exact absurd h0 (by decide)
  · rw[h1];simpa using h2
theorem afg {P:List Nd} {i o:Nat} {up:dh} (h:UI P i o up):∀ k,k<P.length→∀ f g,k+1≤f→k+1≤g→yg up f k=yg up g k:=by
  intro k
  induction k using Nat.strongRecOn with
  | _ k ih =>
    intro hk f g hf hg
    obtain ⟨f,rfl⟩ :∃f',f=f'+1:=⟨f - 1,by omega⟩
    obtain ⟨g,rfl⟩ :∃g',g=g'+1:=⟨g - 1,by omega⟩
    show (if 0≤(dS up k).1 then dS up k::yg up f (dS up k).1.toNat else [])=(if 0≤(dS up k).1 then dS up k::yg up g (dS up k).1.toNat else [])
    by_cases h0:0≤(dS up k).1
    · have hl:=h.lt hk h0
      rw[if_pos h0,if_pos h0,ih _ hl (by omega) f g (by omega) (by omega)]
    · rw[if_neg h0,if_neg h0]
theorem Ak {P:List Nd} {i o:Nat} {up:dh} (h:UI P i o up) {k:Nat} (hk:k<P.length) :
    jX up k=if 0≤(dS up k).1 then dS up k::jX up (dS up k).1.toNat else []:=by
  show (if 0≤(dS up k).1 then dS up k::yg up k (dS up k).1.toNat else [])=_
  by_cases h0:0≤(dS up k).1
  · have hl:=h.lt hk h0
    rw[if_pos h0,if_pos h0]
    congr 1
    exact afg h _ (by omega) _ _ (by omega) (by omega)
  · rw[if_neg h0,if_neg h0]
theorem aeU {m:ah} {P:List Nd} {i:Nat} {up:dh} (hi:i<P.length) (h:kT m P i=some up) (hn:mU m P i up=none):lN m P=none:=by
  unfold lN
  split
  · refine Kb (o:=i+1) ?_ _ (by omega)
    show (kT m P i).bind _=none
    rw[h];exact hn
  · rfl
theorem Wm {n i:Nat} {kids:List Int} {up u:dh} {o:Nat} (h:mu n i kids up o=some u) (ho:o<kids.length) (hn:¬(kl n i (kids.getD o 0)=true∧(dS u (kids.getD o 0).toNat).1<0)):mu n i kids up kids.length=none:=by
  refine Wt (o:=o+1) ?_ _ (by omega)
  show (mu n i kids up o).bind _=none
  rw[h]
  show (if _ then _ else _)=_
  rw[if_neg hn]
theorem Wn {n i:Nat} {kids:List Int} {up u:dh} {o:Nat} (h:mu n i kids up o=some u) (hn:kl n i (kids.getD o 0)=true∧(dS u (kids.getD o 0).toNat).1<0):mu n i kids up (o+1)=some (u.set (kids.getD o 0).toNat ((i:Int),(o:Int))):=by
  show (mu n i kids up o).bind _=_
  rw[h]
  show (if _ then _ else _)=_
  rw[if_pos hn]
theorem Wq {m:ah} {P:List Nd} {n:Nat} {up:dh} (h:kT m P n=some up):∀ i,i<n→∃ u v,kT m P i=some u∧mU m P i u=some v:=by
  intro i hi
  cases hu:kT m P i with
  | none=>rw[Kb hu n (by omega)] at h;cases h
  | some u =>
    cases hv:mU m P i u with
    | none =>
      have h1:kT m P (i+1)=none:=by
        show (kT m P i).bind _=none
        rw[hu];exact hv
      rw[Kb h1 n (by omega)] at h;cases h
    | some v=>exact⟨u,v,rfl,hv⟩
theorem afh {n i:Nat} {kids:List Int} {up v:dh} (h:mu n i kids up kids.length=some v):∀ k∈kids,kl n i k=true:=by
  intro k hk
  obtain ⟨o,ho,rfl⟩:=p9 hk
  cases hw:mu n i kids up o with
  | none=>rw[Wt hw kids.length (by omega)] at h;cases h
  | some w =>
    by_cases hc:kl n i (kids.getD o 0)=true∧(dS w (kids.getD o 0).toNat).1<0
    · have:=hc.1
      rwa [ay,bI ho] at this
    · rw[Wm hw ho hc] at h;cases h
theorem J8 {m:ah} {P:List Nd} {i:Nat} {u v:dh} (h:mU m P i u=some v) :
    ¬(0<i∧(dS u i).1<0)∧lh m (nd P i)=true∧((nd P i).cls≠-1→oI P (nd P i).cls (jX u i)=false)∧jQ m P.length i (nd P i)=true:=by
  unfold mU at h
  split at h
  · cases h
  rename_i h1
  split at h
  · cases h
  rename_i h2
  rw[Df] at h2
  split at h
  · rename_i h3
    refine⟨h1,h2,fun hh=>absurd h3 hh,?_⟩
    unfold jQ
    rw[h2,g9,List.eq_nil_of_length_eq_zero (J6 h2 h3)];rfl
  split at h
  · cases h
  rename_i h3 h4
  refine⟨h1,h2,fun _=>by simpa using h4,?_⟩
  unfold jQ
  rw[h2,g9,fK]
  exact afh h
theorem Ww {P:List Nd} (i:Nat) (k:Int):(eG (P.take i)).count k≤(eG P).count k:=by
  conv=>rhs;rw[← Aw i P]
  unfold eG
  rw[List.flatMap_append,qb];omega
theorem CR {m:ah} {P:List Nd} {up:dh} (h:lN m P=some up):(1≤P.length∧P.length≤20000)∧kT m P P.length=some up:=by
  unfold lN at h
  split at h
  · rename_i hs;exact⟨hs,h⟩
  · cases h
theorem UI.full {P:List Nd} {up:dh} (h:UI P P.length 0 up) (j:Nat) (hj:j<P.length):(eG P).count (j:Int)=if 0≤(dS up j).1 then 1 else 0:=by
  have:=h.yh j hj
  rwa [lx,jc,sy] at this
theorem Ai {m:ah} {P:List Nd} {up:dh} (h:lN m P=some up):iK m P=true:=by
  obtain ⟨hs,hf⟩:=CR h
  have fq:=Wq hf
  have jI:=wu _ _ (aH _) hf
  have l7:∀ j,1≤j→j<P.length→(eG P).count (j:Int)=1:=fun j h1 h2=>by
    obtain ⟨u,v,hu,hv⟩:=fq j h2
    have hn:=(J8 hv).1
    have hc:=(wu _ _ (by omega) hu).yh j h2
    rw[lx,jc,if_pos (by omega)] at hc
    have hle:=Ww (P:=P) j (j:Int)
    have BD:=jI.full j h2
    split at BD<;>omega
  rw[Ex hs fun i hi=>by obtain ⟨u,v,_,hv⟩:=fq i hi;exact (J8 hv).2.2.2,Bool.not_eq_true']
  rw[List.any_eq_false]
  intro x hx
  obtain ⟨j,hj,rfl⟩:=p9 hx
  rw[List.length_drop,xD] at hj
  rw[List.getElem_drop]
  have:=Ew (eG P) (j:=1+j) (show 1+j<P.length by omega)
  rw[ay,bI (by rw[xD];omega),l7 (1+j) (by omega) (by omega)] at this
  rw[kW] at this
  rw[this];decide
theorem afi {P:List Nd} (hd:Down P) (R:dg→Prop) (dP:∀ s o,s.1<P.length→o<(nd P s.1).kids.length→R s→R (lM P s o)) :
    ∀ (f:Nat) (s:dg),s.1<P.length→R s→∀ v∈ky P f s,R v:=by
  intro f
  induction f with
  | zero=>intro s _ _ v hv;exact absurd hv (by simp[ky])
  | succ f ih =>
    intro s hs hr v hv
    rw[ky] at hv
    rcases List.mem_cons.1 hv with rfl | hv
    · exact hr
    · obtain ⟨t,ht,hv⟩:=List.mem_flatMap.1 hv
      obtain ⟨o,ho,rfl⟩:=tp (List.mem_reverse.1 ht)
      exact ih _ (uP hd hs ho).2.1 (dP s o hs ho hr) v hv
def nG (P:List Nd) (l:dh) (x:List (List Bool)):List (List Bool):=l.foldl (fun acc a=>bF acc (nd P a.1.toNat).cls.toNat a.2.toNat) x
def CT (m:ah) (P:List Nd) (u:dh) (s:dg):Prop:=(jX u s.1).map (fun a=>(nd P a.1.toNat).cls)=s.2.2.reverse∧s.2.1=nG P (jX u s.1).reverse (ef m)
theorem FR {m:ah} {P:List Nd} (hd:Down P) {i:Nat} {u:dh} (h:UI P i 0 u) (h0:0<P.length):∀ v∈vs P (root m),v.1≤i→CT m P u v:=by
  refine afi hd (fun s=>s.1≤i→CT m P u s) ?_ _ (root m) h0 ?_
  · intro s o hs ho hr hle
    obtain ⟨h1,h2,h3⟩:=uP hd hs ho
    obtain ⟨r1,r2⟩:=hr (by omega)
    obtain ⟨j,Hz,Bb,hj3,hj4⟩:=h.set s.1 o (.inl (by omega)) hs ho
    have e:(lM P s o).1=j:=by omega
    unfold CT
    rw[e,Ak h Hz,hj4,if_pos (by dsimp only;omega)]
    dsimp only
    rw[eT]
    refine⟨?_,?_⟩
    · rw[List.map_cons,r1]
      show _=(s.2.2++[(nd P s.1).cls]).reverse
      rw[List.reverse_append];rfl
    · unfold nG
      rw[List.reverse_cons,List.foldl_append]
      show bF s.2.1 _ _=_
      rw[r2];rfl
  · intro _
    have xj:dS u 0=(-1,0):=by
      rcases h.low 0 h0 with h1 | ⟨p,q,h1,h2,_⟩
      · exact h1
      · omega
    unfold CT
    rw[Ak h (show (root m).1<P.length from h0)]
    show _∧_
    have:(dS u (root m).1)=(-1,0):=xj
    rw[this,if_neg (by decide)]
    exact⟨rfl,rfl⟩
theorem J7 {m:ah} {P:List Nd} {u:dh} {s:dg} (h:CT m P u s) (c:Int):oI P c (jX u s.1)=s.2.2.contains c:=by
  have h1:oI P c (jX u s.1)=((jX u s.1).map fun a=>(nd P a.1.toNat).cls).any (· == c):=by
    unfold oI;rw[List.any_map];rfl
  rw[h1,h.1,List.any_reverse,Bool.eq_iff_iff,List.any_eq_true,List.contains_iff_mem]
  constructor
  · rintro ⟨x,hx,e⟩
    rw[beq_iff_eq] at e;subst e;exact hx
  · exact fun hx=>⟨c,hx,by simp⟩
theorem Wr {m:ah} {P:List Nd} (h:iK m P=true) {j:Nat} (hj:j<P.length) :∃v∈vs P (root m),v.1=j:=by
  have:=VU h (s:=root m) rfl j hj
  have hm:j∈(vs P (root m)).map (·.1):=by
    rw[← List.count_pos_iff];omega
  obtain ⟨v,hv,e⟩:=b7.1 hm
  exact⟨v,hv,e⟩
theorem ae5 {m:ah} {P:List Nd} (h:iK m P=true) (hn:lN m P=none) :∃v∈vs P (root m),v.2.2.contains (nd P v.1).cls=true:=by
  have hl:=tE h
  have hd:=tq h
  have lj :∃i u,i<P.length∧kT m P i=some u∧mU m P i u=none:=by
    refine Classical.byContradiction fun lW=>?_
    have fq:∀ i,i≤P.length→∃ u,kT m P i=some u:=by
      intro i
      induction i with
      | zero=>exact fun _=>⟨_,rfl⟩
      | succ i ih =>
        intro hi
        obtain ⟨u,hu⟩:=ih (by omega)
        cases hv:mU m P i u with
        | none=>exact absurd ⟨i,u,by omega,hu,hv⟩ lW
        | some v =>
          refine⟨v,?_⟩
          show (kT m P i).bind _=_
          rw[hu];exact hv
    obtain ⟨u,hu⟩:=fq _ (aH _)
    unfold lN at hn
    rw[if_pos hl,hu] at hn
    cases hn
  obtain ⟨i,u,hi,hu,hv⟩:=lj
  have jI:=wu i u (by omega) hu
  obtain ⟨v,b9,J9⟩:=Wr h hi
  refine⟨v,b9,?_⟩
  have jD:=FR hd jI (by omega) v b9 (by omega)
  rw[← J7 jD,J9]
  have sZ:=CM h hi
  unfold jQ at sZ
  rw[Bool.and_eq_true,fK] at sZ
  unfold mU at hv
  split at hv
  · rename_i hp
    obtain ⟨p,Kd,CU,_⟩:=VR h (show 1≤i by omega) hi
    have:i∈kN P p:=by rw[← List.count_pos_iff];omega
    unfold kN at this
    obtain ⟨k,hk,e⟩:=b7.1 this
    obtain ⟨q,hq,rfl⟩:=p9 hk
    obtain ⟨j,h1,h2,h3,h4⟩:=jI.set p q (.inl Kd) (by omega) hq
    rw[ay,bI hq,kW] at h3
    rw[h3,eT] at e
    subst e
    rw[h4] at hp
    exact absurd hp.2 (by dsimp only;omega)
  split at hv
  · rename_i h2
    rw[sZ.1] at h2;cases h2
  split at hv
  · cases hv
  split at hv
  · assumption
  exfalso
  have afk:∀ o,o≤(nd P i).kids.length→∃ w,mu P.length i (nd P i).kids u o=some w:=by
    intro o
    induction o with
    | zero=>exact fun _=>⟨_,rfl⟩
    | succ o ih =>
      intro ho
      obtain ⟨w,hw⟩:=ih (by omega)
      have oa:=sZ.2 _ (az (l:=(nd P i).kids) (i:=o) (d:=0) (by omega))
      refine⟨_,Wn hw ⟨oa,?_⟩⟩
      unfold kl at oa
      rw[decide_eq_true_eq] at oa
      have hwi:=UI.kids hi jI o w (by omega) hw
      have km:(nd P i).kids.take (o+1)=(nd P i).kids.take o++[(nd P i).kids.getD o 0]:=eu (by omega)
      generalize iT:(nd P i).kids.getD o 0=k at *
      obtain ⟨kn,rfl⟩ :∃kn:Nat,k=kn:=⟨k.toNat,by omega⟩
      rw[eT]
      refine Classical.byContradiction fun lE=>?_
      have hc:=hwi.yh kn (by omega)
      rw[if_pos (by omega)] at hc
      have h1:=VQ h (j:=kn) (by omega) (by omega)
      have h2:(eG (P.take (i+1))).count (kn:Int)≤(eG P).count (kn:Int):=Ww _ _
      rw[Wv hi,Ic,qb] at h2
      have h3:((nd P i).kids.take (o+1)).count (kn:Int)≤(nd P i).kids.count (kn:Int):=by
        conv=>rhs;rw[← Aw (o+1) (nd P i).kids]
        rw[qb];omega
      rw[km,qb] at h3
      rw[qb] at hc
      have h4:([(kn:Int)]:List Int).count (kn:Int)=1:=by simp
      omega
  obtain ⟨w,hw⟩:=afk _ (aH _)
  rw[hw] at hv;cases hv
end T

