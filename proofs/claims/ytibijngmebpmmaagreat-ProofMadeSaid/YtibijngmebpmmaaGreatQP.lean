import Derived.Test.YtibijngmebpmmaaGreatPD
import Derived.Test.YtibijngmebpmmaaGreatPE
set_option linter.unusedVariables false
set_option linter.unusedSimpArgs false
set_option linter.unnecessarySimpa false
open Go Go.Am
namespace T
abbrev UpL:=List (Int × Int)
def upG (up:UpL) (j:Nat):Int × Int:=up.getD j default
def up0 (n:Nat):UpL:=List.replicate n (-1,0)
def ancs (up:UpL):Nat→Nat→UpL
  | 0,_=>[]
  | f+1,k=>if 0≤(upG up k).1 then upG up k::ancs up f (upG up k).1.toNat else []
def anc (up:UpL) (k:Nat):UpL:=ancs up (k+1) k
def hitB (P:List Nd) (c:Int) (l:UpL):Bool:=l.any fun a=>(nd P a.1.toNat).cls == c
def kidN (n i:Nat) (kids:List Int) (up:UpL):Nat→Option UpL
  | 0=>some up
  | o+1=>(kidN n i kids up o).bind fun u=>if kidB n i (kids.getD o 0)=true∧(upG u (kids.getD o 0).toNat).1<0 then some (u.set (kids.getD o 0).toNat ((i:Int),(o:Int))) else none
def nodeU (m:Mdl) (P:List Nd) (i:Nat) (up:UpL):Option UpL :=
  if 0<i∧(upG up i).1<0 then none
  else if ndB m (nd P i)=false then none
  else if (nd P i).cls = -1 then some up
  else if hitB P (nd P i).cls (anc up i)=true then none
  else kidN P.length i (nd P i).kids up (nd P i).kids.length
def forU (m:Mdl) (P:List Nd):Nat→Option UpL
  | 0=>some (up0 P.length)
  | i+1=>(forU m P i).bind (nodeU m P i)
def formedV (m:Mdl) (P:List Nd):Option UpL:=if 1≤P.length∧P.length≤20000 then forU m P P.length else none
theorem kidN_none {n i:Nat} {kids:List Int} {up:UpL} {o:Nat} (h:kidN n i kids up o=none):∀ o',o≤o'→kidN n i kids up o'=none:=by
  intro o' ho
  induction o' with
  | zero =>
    obtain rfl:o=0:=by omega
    exact h
  | succ q ih =>
    by_cases e:o=q+1
    · subst e;exact h
    · have:=ih (by omega)
      show (kidN n i kids up q).bind _=none
      rw[this];rfl
theorem forU_none {m:Mdl} {P:List Nd} {o:Nat} (h:forU m P o=none):∀ o',o≤o'→forU m P o'=none:=by
  intro o' ho
  induction o' with
  | zero =>
    obtain rfl:o=0:=by omega
    exact h
  | succ q ih =>
    by_cases e:o=q+1
    · subst e;exact h
    · have:=ih (by omega)
      show (forU m P q).bind _=none
      rw[this];rfl
structure UI (P:List Nd) (i o:Nat) (up:UpL):Prop where
  len:up.length=P.length
  low:∀ j,j<P.length→upG up j=(-1,0)∨∃ p q:Nat,upG up j=((p:Int),(q:Int))∧p<j∧q<(nd P p).kids.length∧(p<i∨p=i∧q<o)
  set:∀ p q,(p<i∨p=i∧q<o)→p<P.length→q<(nd P p).kids.length→∃ j,j<P.length∧p<j∧(nd P p).kids.getD q 0=(j:Int)∧upG up j=((p:Int),(q:Int))
  cnt:∀ j:Nat,j<P.length→((allK (P.take i)++(nd P i).kids.take o).count (j:Int)=if 0≤(upG up j).1 then 1 else 0)
theorem up0_get (n j:Nat) (h:j<n):upG (up0 n) j=(-1,0):=by
  unfold upG up0
  rw[List.getD_eq_getElem?_getD,List.getElem?_replicate_of_lt h];rfl
theorem UI.zero (P:List Nd):UI P 0 0 (up0 P.length) where
  len:=List.length_replicate
  low j hj:=.inl (up0_get _ _ hj)
  set p q h:=by omega
  cnt j hj:=by rw[up0_get _ _ hj];simp[allK]
theorem upG_set {up:UpL} {k j:Nat} {x:Int × Int} (hk:k<up.length):upG (up.set k x) j=if k=j then x else upG up j:=by
  unfold upG
  rw[List.getD_eq_getElem?_getD,List.getElem?_set]
  by_cases e:k=j
  · subst e;rw[if_pos rfl,if_pos hk,if_pos rfl];rfl
  · rw[if_neg e,if_neg e,List.getD_eq_getElem?_getD]
theorem UI.kid {P:List Nd} {i o:Nat} {up:UpL} (h:UI P i o up) (hi:i<P.length) (ho:o<(nd P i).kids.length)
    (hk:kidB P.length i ((nd P i).kids.getD o 0)=true) (hu:(upG up ((nd P i).kids.getD o 0).toNat).1<0) :
    UI P i (o+1) (up.set ((nd P i).kids.getD o 0).toNat ((i:Int),(o:Int))):=by
  unfold kidB at hk
  rw[decide_eq_true_eq] at hk
  have htk:(nd P i).kids.take (o+1)=(nd P i).kids.take o++[(nd P i).kids.getD o 0]:=take_snoc ho
  generalize hkk:(nd P i).kids.getD o 0=k at *
  obtain ⟨kn,rfl⟩ :∃kn:Nat,k=kn:=⟨k.toNat,by omega⟩
  rw[Int.toNat_natCast] at hu ⊢
  have hkl:kn<up.length:=by rw[h.len];omega
  refine⟨by rw[List.length_set];exact h.len,fun j hj=>?_,fun p q hpq hp hq=>?_,fun j hj=>?_⟩
  · rw[upG_set hkl]
    by_cases e:kn=j
    · subst e;rw[if_pos rfl]
      exact .inr ⟨i,o,rfl,by omega,ho,.inr ⟨rfl,by omega⟩⟩
    · rw[if_neg e]
      rcases h.low j hj with h1 | ⟨p,q,h1,h2,h3,h4⟩
      · exact .inl h1
      · exact .inr ⟨p,q,h1,h2,h3,by omega⟩
  · by_cases e:p=i∧q=o
    · obtain ⟨rfl,rfl⟩:=e
      exact⟨kn,by omega,by omega,hkk,by rw[upG_set hkl,if_pos rfl]⟩
    · obtain ⟨j,h1,h2,h3,h4⟩:=h.set p q (by omega) hp hq
      refine⟨j,h1,h2,h3,?_⟩
      rw[upG_set hkl,if_neg ?_,h4]
      rintro rfl
      rw[h4] at hu
      dsimp only at hu
      omega
  · rw[htk,← List.append_assoc,List.count_append,h.cnt j hj,upG_set hkl]
    by_cases e:kn=j
    · subst e;rw[if_neg (by omega),if_pos rfl,if_pos (by dsimp only;omega)];simp
    · have hb:((kn:Int) == (j:Int))=false:=by rw[beq_eq_false_iff_ne];omega
      rw[if_neg e,List.count_singleton,hb]
      rfl
theorem nd_take {P:List Nd} {i:Nat} (hi:i<P.length):P.take (i+1)=P.take i++[nd P i]:=take_snoc hi
theorem UI.next {P:List Nd} {i:Nat} {up:UpL} (h:UI P i (nd P i).kids.length up) (hi:i<P.length):UI P (i+1) 0 up where
  len:=h.len
  low j hj:=by
    rcases h.low j hj with h1 | ⟨p,q,h1,h2,h3,h4⟩
    · exact .inl h1
    · exact .inr ⟨p,q,h1,h2,h3,by omega⟩
  set p q hpq hp hq:=h.set p q (by
    by_cases e:p=i
    · subst e;exact .inr ⟨rfl,hq⟩
    · omega) hp hq
  cnt j hj:=by
    rw[List.take_zero,List.append_nil,nd_take hi,allK_snoc,← h.cnt j hj,List.take_length]
theorem UI.kids {P:List Nd} {i:Nat} (hi:i<P.length) {up:UpL} (h:UI P i 0 up):∀ o u,o≤(nd P i).kids.length→kidN P.length i (nd P i).kids up o=some u→UI P i o u:=by
  intro o
  induction o with
  | zero=>intro u _ hu;cases hu;exact h
  | succ o ih =>
    intro u ho hu
    unfold kidN at hu
    obtain ⟨v,hv,hu⟩:=Option.bind_eq_some_iff.1 hu
    by_cases hc:kidB P.length i ((nd P i).kids.getD o 0)=true∧(upG v ((nd P i).kids.getD o 0).toNat).1<0
    · rw[if_pos hc] at hu
      cases hu
      exact (ih v (by omega) hv).kid hi (by omega) hc.1 hc.2
    · rw[if_neg hc] at hu;cases hu
theorem leaf_kids {m:Mdl} {x:Nd} (h:ndB m x=true) (hc:x.cls = -1):x.kids.length=0:=by
  unfold ndB at h
  rw[if_pos hc,decide_eq_true_eq] at h
  exact h.1
theorem UI.node {m:Mdl} {P:List Nd} {i:Nat} (hi:i<P.length) {up u:UpL} (h:UI P i 0 up) (hu:nodeU m P i up=some u):UI P (i+1) 0 u:=by
  unfold nodeU at hu
  split at hu
  · cases hu
  split at hu
  · cases hu
  rename_i h1 h2
  rw[Bool.not_eq_false] at h2
  split at hu
  · rename_i h3
    cases hu
    have:=leaf_kids h2 h3
    refine UI.next ?_ hi
    rw[this];exact h
  split at hu
  · cases hu
  exact (UI.kids hi h _ _ (Nat.le_refl _) hu).next hi
theorem forU_UI {m:Mdl} {P:List Nd}:∀ i u,i≤P.length→forU m P i=some u→UI P i 0 u:=by
  intro i
  induction i with
  | zero=>intro u _ hu;cases hu;exact UI.zero P
  | succ i ih =>
    intro u hi hu
    unfold forU at hu
    obtain ⟨v,hv,hu⟩:=Option.bind_eq_some_iff.1 hu
    exact (ih v (by omega) hv).node (by omega) hu
theorem UI.lt {P:List Nd} {i o:Nat} {up:UpL} (h:UI P i o up) {k:Nat} (hk:k<P.length) (h0:0≤(upG up k).1):(upG up k).1.toNat<k:=by
  rcases h.low k hk with h1 | ⟨p,q,h1,h2,h3,h4⟩
  · rw[h1] at h0;exact absurd h0 (by decide)
  · rw[h1];simpa using h2
theorem ancs_eq {P:List Nd} {i o:Nat} {up:UpL} (h:UI P i o up):∀ k,k<P.length→∀ f g,k+1≤f→k+1≤g→ancs up f k=ancs up g k:=by
  intro k
  induction k using Nat.strongRecOn with
  | _ k ih =>
    intro hk f g hf hg
    obtain ⟨f,rfl⟩ :∃f',f=f'+1:=⟨f - 1,by omega⟩
    obtain ⟨g,rfl⟩ :∃g',g=g'+1:=⟨g - 1,by omega⟩
    show (if 0≤(upG up k).1 then upG up k::ancs up f (upG up k).1.toNat else [])=(if 0≤(upG up k).1 then upG up k::ancs up g (upG up k).1.toNat else [])
    by_cases h0:0≤(upG up k).1
    · have hl:=h.lt hk h0
      rw[if_pos h0,if_pos h0,ih _ hl (by omega) f g (by omega) (by omega)]
    · rw[if_neg h0,if_neg h0]
theorem anc_step {P:List Nd} {i o:Nat} {up:UpL} (h:UI P i o up) {k:Nat} (hk:k<P.length) :
    anc up k=if 0≤(upG up k).1 then upG up k::anc up (upG up k).1.toNat else []:=by
  show (if 0≤(upG up k).1 then upG up k::ancs up k (upG up k).1.toNat else [])=_
  by_cases h0:0≤(upG up k).1
  · have hl:=h.lt hk h0
    rw[if_pos h0,if_pos h0]
    congr 1
    exact ancs_eq h _ (by omega) _ _ (by omega) (by omega)
  · rw[if_neg h0,if_neg h0]
theorem formed_cut {m:Mdl} {P:List Nd} {i:Nat} {up:UpL} (hi:i<P.length) (h:forU m P i=some up) (hn:nodeU m P i up=none):formedV m P=none:=by
  unfold formedV
  split
  · refine forU_none (o:=i+1) ?_ _ (by omega)
    show (forU m P i).bind _=none
    rw[h];exact hn
  · rfl
theorem kid_cut {n i:Nat} {kids:List Int} {up u:UpL} {o:Nat} (h:kidN n i kids up o=some u) (ho:o<kids.length) (hn:¬(kidB n i (kids.getD o 0)=true∧(upG u (kids.getD o 0).toNat).1<0)):kidN n i kids up kids.length=none:=by
  refine kidN_none (o:=o+1) ?_ _ (by omega)
  show (kidN n i kids up o).bind _=none
  rw[h]
  show (if _ then _ else _)=_
  rw[if_neg hn]
theorem kid_go {n i:Nat} {kids:List Int} {up u:UpL} {o:Nat} (h:kidN n i kids up o=some u) (hn:kidB n i (kids.getD o 0)=true∧(upG u (kids.getD o 0).toNat).1<0):kidN n i kids up (o+1)=some (u.set (kids.getD o 0).toNat ((i:Int),(o:Int))):=by
  show (kidN n i kids up o).bind _=_
  rw[h]
  show (if _ then _ else _)=_
  rw[if_pos hn]
end T
open Go Go.Am
namespace T
theorem forU_all {m:Mdl} {P:List Nd} {n:Nat} {up:UpL} (h:forU m P n=some up):∀ i,i<n→∃ u v,forU m P i=some u∧nodeU m P i u=some v:=by
  intro i hi
  cases hu:forU m P i with
  | none=>rw[forU_none hu n (by omega)] at h;cases h
  | some u =>
    cases hv:nodeU m P i u with
    | none =>
      have h1:forU m P (i+1)=none:=by
        show (forU m P i).bind _=none
        rw[hu];exact hv
      rw[forU_none h1 n (by omega)] at h;cases h
    | some v=>exact⟨u,v,rfl,hv⟩
theorem kidN_all {n i:Nat} {kids:List Int} {up v:UpL} (h:kidN n i kids up kids.length=some v):∀ k∈kids,kidB n i k=true:=by
  intro k hk
  obtain ⟨o,ho,rfl⟩:=List.getElem_of_mem hk
  cases hw:kidN n i kids up o with
  | none=>rw[kidN_none hw kids.length (by omega)] at h;cases h
  | some w =>
    by_cases hc:kidB n i (kids.getD o 0)=true∧(upG w (kids.getD o 0).toNat).1<0
    · have:=hc.1
      rwa [List.getD_eq_getElem?_getD,List.getElem?_eq_getElem ho] at this
    · rw[kid_cut hw ho hc] at h;cases h
theorem nodeU_some {m:Mdl} {P:List Nd} {i:Nat} {u v:UpL} (h:nodeU m P i u=some v) :
    ¬(0<i∧(upG u i).1<0)∧ndB m (nd P i)=true∧((nd P i).cls≠-1→hitB P (nd P i).cls (anc u i)=false)∧nodeB m P.length i (nd P i)=true:=by
  unfold nodeU at h
  split at h
  · cases h
  rename_i h1
  split at h
  · cases h
  rename_i h2
  rw[Bool.not_eq_false] at h2
  split at h
  · rename_i h3
    refine⟨h1,h2,fun hh=>absurd h3 hh,?_⟩
    unfold nodeB
    rw[h2,Bool.true_and,List.eq_nil_of_length_eq_zero (leaf_kids h2 h3)];rfl
  split at h
  · cases h
  rename_i h3 h4
  refine⟨h1,h2,fun _=>by simpa using h4,?_⟩
  unfold nodeB
  rw[h2,Bool.true_and,List.all_eq_true]
  exact kidN_all h
theorem allK_take_le {P:List Nd} (i:Nat) (k:Int):(allK (P.take i)).count k≤(allK P).count k:=by
  conv=>rhs;rw[← List.take_append_drop i P]
  unfold allK
  rw[List.flatMap_append,List.count_append];omega
theorem formed_len {m:Mdl} {P:List Nd} {up:UpL} (h:formedV m P=some up):(1≤P.length∧P.length≤20000)∧forU m P P.length=some up:=by
  unfold formedV at h
  split at h
  · rename_i hs;exact⟨hs,h⟩
  · cases h
theorem UI.full {P:List Nd} {up:UpL} (h:UI P P.length 0 up) (j:Nat) (hj:j<P.length):(allK P).count (j:Int)=if 0≤(upG up j).1 then 1 else 0:=by
  have:=h.cnt j hj
  rwa [List.take_zero,List.append_nil,List.take_length] at this
theorem formed_shaped {m:Mdl} {P:List Nd} {up:UpL} (h:formedV m P=some up):shapedB m P=true:=by
  obtain ⟨hs,hf⟩:=formed_len h
  have hall:=forU_all hf
  have hui:=forU_UI _ _ (Nat.le_refl _) hf
  have hone:∀ j,1≤j→j<P.length→(allK P).count (j:Int)=1:=fun j h1 h2=>by
    obtain ⟨u,v,hu,hv⟩:=hall j h2
    have hn:=(nodeU_some hv).1
    have hc:=(forU_UI _ _ (by omega) hu).cnt j h2
    rw[List.take_zero,List.append_nil,if_pos (by omega)] at hc
    have hle:=allK_take_le (P:=P) j (j:Int)
    have hfc:=hui.full j h2
    split at hfc<;>omega
  rw[shaped_end hs fun i hi=>by obtain ⟨u,v,_,hv⟩:=hall i hi;exact (nodeU_some hv).2.2.2,Bool.not_eq_true']
  rw[List.any_eq_false]
  intro x hx
  obtain ⟨j,hj,rfl⟩:=List.getElem_of_mem hx
  rw[List.length_drop,parV_len] at hj
  rw[List.getElem_drop]
  have:=parV_get (allK P) (j:=1+j) (show 1+j<P.length by omega)
  rw[List.getD_eq_getElem?_getD,List.getElem?_eq_getElem (by rw[parV_len];omega),hone (1+j) (by omega) (by omega)] at this
  rw[Option.getD_some] at this
  rw[this];decide
theorem vis_ind {P:List Nd} (hd:Down P) (R:St3→Prop) (hst:∀ s o,s.1<P.length→o<(nd P s.1).kids.length→R s→R (kidS P s o)) :
    ∀ (f:Nat) (s:St3),s.1<P.length→R s→∀ v∈vis P f s,R v:=by
  intro f
  induction f with
  | zero=>intro s _ _ v hv;exact absurd hv (by simp[vis])
  | succ f ih =>
    intro s hs hr v hv
    rw[vis] at hv
    rcases List.mem_cons.1 hv with rfl | hv
    · exact hr
    · obtain ⟨t,ht,hv⟩:=List.mem_flatMap.1 hv
      obtain ⟨o,ho,rfl⟩:=kid_mem (List.mem_reverse.1 ht)
      exact ih _ (kid_in hd hs ho).2.1 (hst s o hs ho hr) v hv
def wayF (P:List Nd) (l:UpL) (x:List (List Bool)):List (List Bool):=l.foldl (fun acc a=>onlyV acc (nd P a.1.toNat).cls.toNat a.2.toNat) x
def RelW (m:Mdl) (P:List Nd) (u:UpL) (s:St3):Prop:=(anc u s.1).map (fun a=>(nd P a.1.toNat).cls)=s.2.2.reverse∧s.2.1=wayF P (anc u s.1).reverse (allT m)
theorem rel_vis {m:Mdl} {P:List Nd} (hd:Down P) {i:Nat} {u:UpL} (h:UI P i 0 u) (h0:0<P.length):∀ v∈vs P (root m),v.1≤i→RelW m P u v:=by
  refine vis_ind hd (fun s=>s.1≤i→RelW m P u s) ?_ _ (root m) h0 ?_
  · intro s o hs ho hr hle
    obtain ⟨h1,h2,h3⟩:=kid_in hd hs ho
    obtain ⟨r1,r2⟩:=hr (by omega)
    obtain ⟨j,hj1,hj2,hj3,hj4⟩:=h.set s.1 o (.inl (by omega)) hs ho
    have e:(kidS P s o).1=j:=by omega
    unfold RelW
    rw[e,anc_step h hj1,hj4,if_pos (by dsimp only;omega)]
    dsimp only
    rw[Int.toNat_natCast]
    refine⟨?_,?_⟩
    · rw[List.map_cons,r1]
      show _=(s.2.2++[(nd P s.1).cls]).reverse
      rw[List.reverse_append];rfl
    · unfold wayF
      rw[List.reverse_cons,List.foldl_append]
      show onlyV s.2.1 _ _=_
      rw[r2];rfl
  · intro _
    have hr0:upG u 0=(-1,0):=by
      rcases h.low 0 h0 with h1 | ⟨p,q,h1,h2,_⟩
      · exact h1
      · omega
    unfold RelW
    rw[anc_step h (show (root m).1<P.length from h0)]
    show _∧_
    have:(upG u (root m).1)=(-1,0):=hr0
    rw[this,if_neg (by decide)]
    exact⟨rfl,rfl⟩
theorem rel_hit {m:Mdl} {P:List Nd} {u:UpL} {s:St3} (h:RelW m P u s) (c:Int):hitB P c (anc u s.1)=s.2.2.contains c:=by
  have h1:hitB P c (anc u s.1)=((anc u s.1).map fun a=>(nd P a.1.toNat).cls).any (· == c):=by
    unfold hitB;rw[List.any_map];rfl
  rw[h1,h.1,List.any_reverse,Bool.eq_iff_iff,List.any_eq_true,List.contains_iff_mem]
  constructor
  · rintro ⟨x,hx,e⟩
    rw[beq_iff_eq] at e;subst e;exact hx
  · exact fun hx=>⟨c,hx,by simp⟩
theorem visit_of {m:Mdl} {P:List Nd} (h:shapedB m P=true) {j:Nat} (hj:j<P.length) :∃v∈vs P (root m),v.1=j:=by
  have:=vs_once h (s:=root m) rfl j hj
  have hm:j∈(vs P (root m)).map (·.1):=by
    rw[← List.count_pos_iff];omega
  obtain ⟨v,hv,e⟩:=List.mem_map.1 hm
  exact⟨v,hv,e⟩
theorem unformed {m:Mdl} {P:List Nd} (h:shapedB m P=true) (hn:formedV m P=none) :∃v∈vs P (root m),v.2.2.contains (nd P v.1).cls=true:=by
  have hl:=shaped_len h
  have hd:=shaped_down h
  have hbad :∃i u,i<P.length∧forU m P i=some u∧nodeU m P i u=none:=by
    refine Classical.byContradiction fun hno=>?_
    have hall:∀ i,i≤P.length→∃ u,forU m P i=some u:=by
      intro i
      induction i with
      | zero=>exact fun _=>⟨_,rfl⟩
      | succ i ih =>
        intro hi
        obtain ⟨u,hu⟩:=ih (by omega)
        cases hv:nodeU m P i u with
        | none=>exact absurd ⟨i,u,by omega,hu,hv⟩ hno
        | some v =>
          refine⟨v,?_⟩
          show (forU m P i).bind _=_
          rw[hu];exact hv
    obtain ⟨u,hu⟩:=hall _ (Nat.le_refl _)
    unfold formedV at hn
    rw[if_pos hl,hu] at hn
    cases hn
  obtain ⟨i,u,hi,hu,hv⟩:=hbad
  have hui:=forU_UI i u (by omega) hu
  obtain ⟨v,hvm,hve⟩:=visit_of h hi
  refine⟨v,hvm,?_⟩
  have hrel:=rel_vis hd hui (by omega) v hvm (by omega)
  rw[← rel_hit hrel,hve]
  have hnode:=shaped_node h hi
  unfold nodeB at hnode
  rw[Bool.and_eq_true,List.all_eq_true] at hnode
  unfold nodeU at hv
  split at hv
  · rename_i hp
    obtain ⟨p,hp1,hp2,_⟩:=shaped_par h (show 1≤i by omega) hi
    have:i∈kN P p:=by rw[← List.count_pos_iff];omega
    unfold kN at this
    obtain ⟨k,hk,e⟩:=List.mem_map.1 this
    obtain ⟨q,hq,rfl⟩:=List.getElem_of_mem hk
    obtain ⟨j,h1,h2,h3,h4⟩:=hui.set p q (.inl hp1) (by omega) hq
    rw[List.getD_eq_getElem?_getD,List.getElem?_eq_getElem hq,Option.getD_some] at h3
    rw[h3,Int.toNat_natCast] at e
    subst e
    rw[h4] at hp
    exact absurd hp.2 (by dsimp only;omega)
  split at hv
  · rename_i h2
    rw[hnode.1] at h2;cases h2
  split at hv
  · cases hv
  split at hv
  · assumption
  exfalso
  have hkall:∀ o,o≤(nd P i).kids.length→∃ w,kidN P.length i (nd P i).kids u o=some w:=by
    intro o
    induction o with
    | zero=>exact fun _=>⟨_,rfl⟩
    | succ o ih =>
      intro ho
      obtain ⟨w,hw⟩:=ih (by omega)
      have hkb:=hnode.2 _ (getD_mem (l:=(nd P i).kids) (i:=o) (d:=0) (by omega))
      refine⟨_,kid_go hw ⟨hkb,?_⟩⟩
      unfold kidB at hkb
      rw[decide_eq_true_eq] at hkb
      have hwi:=UI.kids hi hui o w (by omega) hw
      have htk:(nd P i).kids.take (o+1)=(nd P i).kids.take o++[(nd P i).kids.getD o 0]:=take_snoc (by omega)
      generalize hkk:(nd P i).kids.getD o 0=k at *
      obtain ⟨kn,rfl⟩ :∃kn:Nat,k=kn:=⟨k.toNat,by omega⟩
      rw[Int.toNat_natCast]
      refine Classical.byContradiction fun hge=>?_
      have hc:=hwi.cnt kn (by omega)
      rw[if_pos (by omega)] at hc
      have h1:=shaped_one h (j:=kn) (by omega) (by omega)
      have h2:(allK (P.take (i+1))).count (kn:Int)≤(allK P).count (kn:Int):=allK_take_le _ _
      rw[nd_take hi,allK_snoc,List.count_append] at h2
      have h3:((nd P i).kids.take (o+1)).count (kn:Int)≤(nd P i).kids.count (kn:Int):=by
        conv=>rhs;rw[← List.take_append_drop (o+1) (nd P i).kids]
        rw[List.count_append];omega
      rw[htk,List.count_append] at h3
      rw[List.count_append] at hc
      have h4:([(kn:Int)]:List Int).count (kn:Int)=1:=by simp
      omega
  obtain ⟨w,hw⟩:=hkall _ (Nat.le_refl _)
  rw[hw] at hv;cases hv
end T
open Go Go.Am
namespace T
def leftU (m:Mdl) (P:List Nd) (up:UpL) (k:Nat):List (List Bool):=wayF P (anc up k) (allT m)
theorem anc_mem {P:List Nd} {i o:Nat} {up:UpL} (h:UI P i o up):∀ k,k<P.length→∀ a∈anc up k,∃ p q:Nat,a=((p:Int),(q:Int))∧p<k∧q<(nd P p).kids.length:=by
  intro k
  induction k using Nat.strongRecOn with
  | _ k ih =>
    intro hk a ha
    rw[anc_step h hk] at ha
    rcases h.low k hk with h1 | ⟨p,q,h1,h2,h3,_⟩
    · rw[h1,if_neg (by decide)] at ha;cases ha
    · rw[h1,if_pos (by dsimp only;omega)] at ha
      rcases List.mem_cons.1 ha with rfl | ha
      · exact⟨p,q,rfl,h2,h3⟩
      · dsimp only at ha
        rw[Int.toNat_natCast] at ha
        obtain ⟨p',q',e1,e2,e3⟩:=ih p h2 (by omega) a ha
        exact⟨p',q',e1,by omega,e3⟩
theorem kids_cls {m:Mdl} {P:List Nd} (h:shapedB m P=true) {p:Nat} (hp:p<P.length) {q:Nat} (hq:q<(nd P p).kids.length):0≤(nd P p).cls∧(nd P p).cls<m.cls.length:=by
  have hnode:=shaped_node h hp
  unfold nodeB at hnode
  rw[Bool.and_eq_true] at hnode
  have h1:=hnode.1
  by_cases hc:(nd P p).cls = -1
  · have:=leaf_kids h1 hc;omega
  · unfold ndB at h1
    rw[if_neg hc,decide_eq_true_eq] at h1
    exact⟨h1.1,h1.2.1⟩
theorem some_nohit {m:Mdl} {P:List Nd} {up:UpL} (h:formedV m P=some up):∀ v∈vs P (root m),v.2.2.contains (nd P v.1).cls=false:=by
  intro v hv
  have hs:=formed_shaped h
  have hl:=shaped_len hs
  have hd:=shaped_down hs
  have hvl:=vis_range hd _ (root m) (show 0<P.length by omega) v hv
  obtain ⟨u,w,hu,hw⟩:=forU_all (formed_len h).2 v.1 hvl
  have hui:=forU_UI _ _ (by omega) hu
  have hrel:=rel_vis hd hui (by omega) v hv (by omega)
  rw[← rel_hit hrel]
  by_cases hc:(nd P v.1).cls = -1
  · unfold hitB
    rw[List.any_eq_false]
    intro a ha
    obtain ⟨p,q,e1,e2,e3⟩:=anc_mem hui v.1 hvl a ha
    subst e1
    have:=kids_cls hs (show p<P.length by omega) e3
    dsimp only
    rw[Int.toNat_natCast,hc,beq_iff_eq]
    omega
  · exact (nodeU_some hw).2.2.1 hc
theorem only_comm (x:List (List Bool)) {a b:Nat} (h:a≠b) (o q:Nat):onlyV (onlyV x a o) b q=onlyV (onlyV x b q) a o:=by
  have g:∀ {a b:Nat} (r:List Bool),a≠b→(x.set a r).getD b default=x.getD b default:=fun r h=>by
    rw[List.getD_eq_getElem?_getD,List.getElem?_set_ne h,← List.getD_eq_getElem?_getD]
  unfold onlyV
  rw[g _ h,g _ (Ne.symm h)]
  exact List.set_comm _ _ h
def clsN (P:List Nd) (l:UpL):List Nat:=l.map fun a=>(nd P a.1.toNat).cls.toNat
theorem way_snoc {P:List Nd} (a:Int × Int):∀ (l:UpL) (x:List (List Bool)),(nd P a.1.toNat).cls.toNat ∉ clsN P l→wayF P (l++[a]) x=wayF P (a::l) x:=by
  intro l
  induction l with
  | nil=>intro x _;rfl
  | cons b l ih =>
    intro x hx
    have h1:(nd P b.1.toNat).cls.toNat≠(nd P a.1.toNat).cls.toNat:=fun e=>hx (by unfold clsN;rw[List.map_cons,e];simp)
    have h2:(nd P a.1.toNat).cls.toNat ∉ clsN P l:=fun e=>hx (by unfold clsN at e ⊢;rw[List.map_cons];exact List.mem_cons_of_mem _ e)
    show wayF P (l++[a]) (onlyV x _ _)=wayF P l (onlyV (onlyV x _ _) _ _)
    rw[ih _ h2]
    show wayF P l (onlyV (onlyV x _ _) _ _)=_
    rw[only_comm x h1]
theorem way_rev {P:List Nd}:∀ (l:UpL) (x:List (List Bool)),(clsN P l).Nodup→wayF P l.reverse x=wayF P l x:=by
  intro l
  induction l with
  | nil=>intro x _;rfl
  | cons b l ih =>
    intro x hx
    unfold clsN at hx
    rw[List.map_cons,List.nodup_cons] at hx
    rw[List.reverse_cons,way_snoc b _ x (fun hm=>hx.1 (by unfold clsN at hm;rw[List.map_reverse,List.mem_reverse] at hm;exact hm))]
    show wayF P l.reverse (onlyV x _ _)=wayF P l (onlyV x _ _)
    exact ih _ hx.2
theorem anc_nodup {m:Mdl} {P:List Nd} {up:UpL} (h:formedV m P=some up):∀ k,k<P.length→(clsN P (anc up k)).Nodup:=by
  have hs:=formed_shaped h
  have hl:=shaped_len hs
  have hd:=shaped_down hs
  have hui:=forU_UI _ _ (Nat.le_refl _) (formed_len h).2
  intro k
  induction k using Nat.strongRecOn with
  | _ k ih =>
    intro hk
    rw[anc_step hui hk]
    rcases hui.low k hk with h1 | ⟨p,q,h1,h2,h3,_⟩
    · rw[h1,if_neg (by decide)];exact List.nodup_nil
    · rw[h1,if_pos (by dsimp only;omega)]
      unfold clsN
      dsimp only
      rw[List.map_cons,List.nodup_cons,Int.toNat_natCast]
      refine⟨fun hm=>?_,ih p h2 (by omega)⟩
      obtain ⟨a,ha,e⟩:=List.mem_map.1 hm
      obtain ⟨v,hv,hve⟩:=visit_of hs (show p<P.length by omega)
      have hno:=some_nohit h v hv
      rw[← rel_hit (rel_vis hd hui (by omega) v hv (by omega)),hve] at hno
      unfold hitB at hno
      rw[List.any_eq_false] at hno
      have:=hno a ha
      obtain ⟨p',q',e1,e2,e3⟩:=anc_mem hui p (by omega) a ha
      subst e1
      have c1:=kids_cls hs (show p'<P.length by omega) e3
      have c2:=kids_cls hs (show p<P.length by omega) h3
      dsimp only at e this
      rw[Int.toNat_natCast] at e this
      rw[beq_iff_eq] at this
      omega
theorem left_eq {m:Mdl} {P:List Nd} {up:UpL} (h:formedV m P=some up):∀ v∈vs P (root m),leftU m P up v.1=v.2.1:=by
  intro v hv
  have hs:=formed_shaped h
  have hl:=shaped_len hs
  have hd:=shaped_down hs
  have hui:=forU_UI _ _ (Nat.le_refl _) (formed_len h).2
  have hvl:=vis_range hd _ (root m) (show 0<P.length by omega) v hv
  rw[(rel_vis hd hui (by omega) v hv (by omega)).2,way_rev _ _ (anc_nodup h _ hvl)];rfl
def leafO (m:Mdl) (x:Nd) (left:List (List Bool)):Option Int :=
  if x.cls≠-1 then some 1099511627776
  else if 0<x.grp.length then (if crowdedB m x left=true then some 1099511627776 else none)
  else if (leafT m left x.mvs).2=0 then some (leafT m left x.mvs).1 else none
def foldO:List (Option Int)→Int→Option Int
  | [],b=>some b
  | none::_,_=>none
  | some v::l,b=>foldO l (min b v)
theorem foldO_perm {l l':List (Option Int)} (h:l.Perm l'):∀ b,foldO l b=foldO l' b:=by
  induction h with
  | nil=>exact fun _=>rfl
  | cons x _ ih=>intro b;cases x<;>simp only[foldO,ih]
  | swap x y l =>
    intro b
    cases x<;>cases y<;>simp only[foldO]
    congr 1;omega
  | trans _ _ h1 h2=>exact fun b=>(h1 b).trans (h2 b)
theorem run_fold {m:Mdl} {P:List Nd}:∀ (L:List St3) (b:Int),b≤1099511627776→(∀ s∈L,s.2.2.contains (nd P s.1).cls=false) →
    foldO (L.map fun s=>leafO m (nd P s.1) s.2.1) b=if (runL P (chkS m P) L b).2=true then some (runL P (chkS m P) L b).1 else none:=by
  intro L
  induction L with
  | nil=>intro b _ _;rfl
  | cons s L ih =>
    intro b hb h
    have hc:=h s (by simp)
    have hL:=fun b hb=>ih b hb fun t ht=>h t (by simp[ht])
    rw[List.map_cons,runL,if_neg (show ¬(s.2.2.contains (nd P s.1).cls=true) by rw[hc];simp)]
    generalize hml:(L.map fun s=>leafO m (nd P s.1) s.2.1)=ml at *
    clear hml ih
    generalize hcs:chkS m P b s=cs at *
    unfold chkS at hcs
    subst hcs
    unfold leafO
    by_cases h1:(nd P s.1).cls≠-1
    · rw[if_pos h1,if_pos h1,if_pos rfl]
      show foldO _ (min b _)=_
      rw[Int.min_eq_left hb]
      exact hL b hb
    · rw[if_neg h1,if_neg h1]
      by_cases h2:0<(nd P s.1).grp.length
      · rw[if_pos h2,if_pos h2]
        by_cases h3:crowdedB m (nd P s.1) s.2.1=true
        · rw[if_pos h3,h3,if_pos rfl]
          show foldO _ (min b _)=_
          rw[Int.min_eq_left hb]
          exact hL b hb
        · rw[if_neg h3,if_neg h3];rfl
      · rw[if_neg h2,if_neg h2]
        by_cases h3:(leafT m s.2.1 (nd P s.1).mvs).2=0
        · rw[if_pos h3,h3,if_pos (show (((0:Int) == 0)=true) from rfl)]
          exact hL _ (by omega)
        · have h4:((leafT m s.2.1 (nd P s.1).mvs).2 == 0)=false:=beq_false_of_ne h3
          rw[if_neg h3,h4];rfl
def refN (m:Mdl) (P:List Nd) (up:UpL) (i:Nat):Option Int:=foldO ((List.range i).map fun k=>leafO m (nd P k) (leftU m P up k)) 1099511627776
theorem foldO_snoc (x:Option Int):∀ (l:List (Option Int)) (b:Int),foldO (l++[x]) b=(foldO l b).bind fun c=>x.map (min c):=by
  intro l
  induction l with
  | nil=>intro b;cases x<;>rfl
  | cons y l ih=>intro b;cases y with
    | none=>rfl
    | some v=>exact ih _
theorem refN_succ (m:Mdl) (P:List Nd) (up:UpL) (i:Nat):refN m P up (i+1)=(refN m P up i).bind fun c=>(leafO m (nd P i) (leftU m P up i)).map (min c):=by
  unfold refN
  rw[List.range_succ,List.map_append]
  exact foldO_snoc _ _ _
theorem vs_perm {m:Mdl} {P:List Nd} (h:shapedB m P=true):((vs P (root m)).map (·.1)).Perm (List.range P.length):=by
  have hl:=shaped_len h
  rw[List.perm_iff_count]
  intro a
  by_cases ha:a<P.length
  · rw[vs_once h rfl a ha,List.nodup_range.count,if_pos (List.mem_range.2 ha)]
  · rw[List.count_eq_zero.2,List.count_eq_zero.2 (by rw[List.mem_range];exact ha)]
    intro hm
    obtain ⟨v,hv,e⟩:=List.mem_map.1 hm
    have:=vis_range (shaped_down h) _ (root m) (show 0<P.length by omega) v hv
    omega
def chkR (m:Mdl) (P:List Nd):Int × Bool :=
  match formedV m P with
  | none=>(0,false)
  | some up=>match refN m P up P.length with
    | none=>(0,false)
    | some b=>(b,true)
theorem check_eq {m:Mdl} (hm:VM m) (P:List Nd):chkV m P=chkR m P:=by
  unfold chkR
  cases hf:formedV m P with
  | none =>
    dsimp only
    by_cases hs:shapedB m P=true
    · obtain ⟨v,hv,hh⟩:=unformed hs hf
      generalize hc:chkV m P=c
      obtain ⟨n,ok⟩:=c
      cases ok
      · unfold chkV at hc
        split at hc
        · cases hc
        · exact hc.symm
      · obtain ⟨_,_,h3⟩:=chkV_iff hc
        have:=((chk_leaf h3).2 v hv).1
        rw[this] at hh;cases hh
    · have hw:walkV m P (chkS m P) 1099511627776=(1099511627776,false):=if_neg fun h=>hs h.2
      unfold chkV
      rw[hw,if_neg (by simp)]
  | some up =>
    dsimp only
    have hs:=formed_shaped hf
    have hw:walkV m P (chkS m P) 1099511627776=runL P (chkS m P) (vs P (root m)) 1099511627776:=if_pos ⟨valid_iff.2 hm,hs⟩
    have hr:=run_fold (m:=m) (P:=P) (vs P (root m)) 1099511627776 (Int.le_refl _) (some_nohit hf)
    have he:refN m P up P.length=foldO ((vs P (root m)).map fun s=>leafO m (nd P s.1) s.2.1) 1099511627776:=by
      unfold refN
      rw[← foldO_perm ((vs_perm hs).map _),List.map_map]
      congr 1
      refine List.map_congr_left fun v hv=>?_
      show leafO m (nd P v.1) (leftU m P up v.1)=_
      rw[left_eq hf v hv]
    rw[he,hr]
    unfold chkV
    rw[hw]
    by_cases h2:(runL P (chkS m P) (vs P (root m)) 1099511627776).2=true
    · rw[if_pos h2,if_pos h2]
    · rw[if_neg h2,if_neg h2]
end T
open Go Go.Am
namespace T
theorem runLeft_hit {P:List Nd} (k:Int):∀ (L:List St3) (a:Option (List (List Bool))),(∃ v∈L,v.2.2.contains (nd P v.1).cls=true)→(runL P (lftS k) L a).2=false:=by
  intro L
  induction L with
  | nil=>rintro a ⟨v,hv,_⟩;cases hv
  | cons s L ih =>
    rintro a ⟨v,hv,h⟩
    rw[runL]
    by_cases hs:s.2.2.contains (nd P s.1).cls=true
    · rw[if_pos hs]
    · rw[if_neg hs,if_pos (show (lftS k a s).2=true from rfl)]
      rcases List.mem_cons.1 hv with rfl | hv
      · exact absurd h hs
      · exact ih _ ⟨v,hv,h⟩
theorem runLeft_ok {P:List Nd} (k:Int):∀ (L:List St3) (a:Option (List (List Bool))),(∀ v∈L,v.2.2.contains (nd P v.1).cls=false) →
    (runL P (lftS k) L a).2=true∧(((runL P (lftS k) L a).1=a∧∀ v∈L,(v.1:Int)≠k)∨∃ v∈L,(v.1:Int)=k∧(runL P (lftS k) L a).1=some v.2.1):=by
  intro L
  induction L with
  | nil=>exact fun a _=>⟨rfl,.inl ⟨rfl,fun v hv=>by cases hv⟩⟩
  | cons s L ih =>
    intro a h
    have hs:=h s (by simp)
    rw[runL,if_neg (show ¬(s.2.2.contains (nd P s.1).cls=true) by rw[hs];simp),if_pos (show (lftS k a s).2=true from rfl)]
    obtain ⟨i1,i2⟩:=ih (lftS k a s).1 fun v hv=>h v (by simp[hv])
    refine⟨i1,?_⟩
    rcases i2 with ⟨e,hno⟩ | ⟨v,hv,e1,e2⟩
    · by_cases hk:(s.1:Int)=k
      · refine .inr ⟨s,by simp,hk,?_⟩
        rw[e];unfold lftS;rw[if_pos hk]
      · refine .inl ⟨?_,fun v hv=>?_⟩
        · rw[e];unfold lftS;rw[if_neg hk]
        · rcases List.mem_cons.1 hv with rfl | hv
          · exact hk
          · exact hno v hv
    · exact .inr ⟨v,by simp[hv],e1,e2⟩
def lftR (m:Mdl) (P:List Nd) (k:Int):List (List Bool) × Bool :=
  match formedV m P with
  | none=>([],false)
  | some up=>if 0≤k∧k<P.length then (leftU m P up k.toNat,true) else ([],false)
theorem lft_eq {m:Mdl} (hm:VM m) (P:List Nd) (k:Int):lftV m P k=lftR m P k:=by
  unfold lftR
  cases hf:formedV m P with
  | none =>
    dsimp only
    have h2:(walkV m P (lftS k) none).2=false:=by
      by_cases hs:shapedB m P=true
      · have hw:walkV m P (lftS k) none=runL P (lftS k) (vs P (root m)) none:=if_pos ⟨valid_iff.2 hm,hs⟩
        rw[hw]
        exact runLeft_hit k _ _ (unformed hs hf)
      · have hw:walkV m P (lftS k) none=(none,false):=if_neg fun h=>hs h.2
        rw[hw]
    unfold lftV
    rw[if_neg (by rw[h2];simp)]
  | some up =>
    dsimp only
    have hs:=formed_shaped hf
    have hw:walkV m P (lftS k) none=runL P (lftS k) (vs P (root m)) none:=if_pos ⟨valid_iff.2 hm,hs⟩
    obtain ⟨h1,h2⟩:=runLeft_ok (P:=P) k (vs P (root m)) none (some_nohit hf)
    unfold lftV
    rw[hw]
    by_cases hk:0≤k∧k<P.length
    · rw[if_pos ⟨h1,hk⟩,if_pos hk]
      rcases h2 with ⟨_,hno⟩ | ⟨v,hv,e1,e2⟩
      · obtain ⟨v,hv,e⟩:=visit_of hs (show k.toNat<P.length by omega)
        exact absurd (show (v.1:Int)=k by omega) (hno v hv)
      · rw[e2,← left_eq hf v hv]
        have:k.toNat=v.1:=by omega
        rw[this];rfl
    · rw[if_neg fun h=>hk h.2,if_neg hk]
end T

