import Derived.Test.YtdipcmigdbnheaaGreatX30
import Derived.Test.YtdipcmigdbnheaaGreatX31
import Derived.Test.YtdipcmigdbnheaaGreatX20
set_option linter.unusedVariables false
set_option linter.unusedSimpArgs false
set_option linter.unnecessarySimpa false
set_option linter.unusedSectionVars false
set_option maxHeartbeats 64000000
set_option maxRecDepth 20000
open List renaming getD_eq_getElem?_getD→ay,getElem?_replicate_of_lt→Hl,length_replicate→mo,getElem?_set→bO,count_append→qJ,take_zero→lW,append_nil→oe,take_length→zK,getElem_of_mem→lZ,getElem?_eq_getElem→bm,all_eq_true→eW,take_append_drop→xI,any_eq_false→v3,mem_cons→bW,mem_reverse→rY,map_cons→du,reverse_cons→Hg,mem_map→bV,nodup_cons→qE,range→bn,mem_range→og,count_eq_zero→Mb,length→tu,ext_getElem?→km,getElem?_map→bR,getElem?_eq_none→dM
open Int renaming toNat_natCast→dg,min_eq_left→Hj
open Option renaming bind_eq_some_iff→xL,getD_some→gw
open Bool renaming not_eq_false→xQ,true_and→gV,and_eq_true→a7
open Nat renaming le_refl→aV,strongRecOn→BA
open Go Go.Am
namespace T
abbrev df:=List (Int × Int)
def dP (up:df) (j:Nat):Int × Int:=up.getD j default
def zy (n:Nat):df:=List.replicate n (-1,0)
def zz (up:df):Nat→Nat→df
  | 0,_=>[]
  | f+1,k=>if 0≤(dP up k).1 then dP up k::zz up f (dP up k).1.toNat else []
def ki (up:df) (k:Nat):df:=zz up (k+1) k
def pg (P:List Nd) (c:Int) (l:df):Bool:=l.any fun a=>(nd P a.1.toNat).cls == c
def mV (n i:Nat) (kids:List Int) (up:df):Nat→Option df
  | 0=>some up
  | o+1=>(mV n i kids up o).bind fun u=>if kI n i (kids.getD o 0)=true∧(dP u (kids.getD o 0).toNat).1<0 then some (u.set (kids.getD o 0).toNat ((i:Int),(o:Int))) else none
def nD (m:ae) (P:List Nd) (i:Nat) (up:df):Option df :=
  if 0<i∧(dP up i).1<0 then none
  else if lh m (nd P i)=false then none
  else if (nd P i).cls = -1 then some up
  else if pg P (nd P i).cls (ki up i)=true then none
  else mV P.length i (nd P i).kids up (nd P i).kids.length
def lz (m:ae) (P:List Nd):Nat→Option df
  | 0=>some (zy P.length)
  | i+1=>(lz m P i).bind (nD m P i)
def mj (m:ae) (P:List Nd):Option df:=if 1≤P.length∧P.length≤20000 then lz m P P.length else none
theorem YZ {n i:Nat} {kids:List Int} {up:df} {o:Nat} (h:mV n i kids up o=none):∀ o',o≤o'→mV n i kids up o'=none:=by
  intro o' ho
  induction o' with
  | zero =>
    obtain rfl:o=0:=by omega
    exact h
  | succ q ih =>
    by_cases e:o=q+1
    · subst e;exact h
    · have:=ih (by omega)
      show (mV n i kids up q).bind _=none
      rw[this];rfl
theorem Lw {m:ae} {P:List Nd} {o:Nat} (h:lz m P o=none):∀ o',o≤o'→lz m P o'=none:=by
  intro o' ho
  induction o' with
  | zero =>
    obtain rfl:o=0:=by omega
    exact h
  | succ q ih =>
    by_cases e:o=q+1
    · subst e;exact h
    · have:=ih (by omega)
      show (lz m P q).bind _=none
      rw[this];rfl
structure UI (P:List Nd) (i o:Nat) (up:df):Prop where
  len:up.length=P.length
  low:∀ j,j<P.length→dP up j=(-1,0)∨∃ p q:Nat,dP up j=((p:Int),(q:Int))∧p<j∧q<(nd P p).kids.length∧(p<i∨p=i∧q<o)
  set:∀ p q,(p<i∨p=i∧q<o)→p<P.length→q<(nd P p).kids.length→∃ j,j<P.length∧p<j∧(nd P p).kids.getD q 0=(j:Int)∧dP up j=((p:Int),(q:Int))
  zA:∀ j:Nat,j<P.length→((eQ (P.take i)++(nd P i).kids.take o).count (j:Int)=if 0≤(dP up j).1 then 1 else 0)
theorem Y1 (n j:Nat) (h:j<n):dP (zy n) j=(-1,0):=by
  unfold dP zy
  rw[ay,Hl h];rfl
theorem UI.zero (P:List Nd):UI P 0 0 (zy P.length) where
  len:=mo
  low j hj:=.inl (Y1 _ _ hj)
  set p q h:=by omega
  zA j hj:=by rw[Y1 _ _ hj];simp[eQ]
theorem GP {up:df} {k j:Nat} {x:Int × Int} (hk:k<up.length):dP (up.set k x) j=if k=j then x else dP up j:=by
  unfold dP
  rw[ay,bO]
  by_cases e:k=j
  · subst e;rw[if_pos rfl,if_pos hk,if_pos rfl];rfl
  · rw[if_neg e,if_neg e,ay]
theorem UI.Bf {P:List Nd} {i o:Nat} {up:df} (h:UI P i o up) (hi:i<P.length) (ho:o<(nd P i).kids.length)
    (hk:kI P.length i ((nd P i).kids.getD o 0)=true) (hu:(dP up ((nd P i).kids.getD o 0).toNat).1<0) :
    UI P i (o+1) (up.set ((nd P i).kids.getD o 0).toNat ((i:Int),(o:Int))):=by
  unfold kI at hk
  rw[decide_eq_true_eq] at hk
  have mN:(nd P i).kids.take (o+1)=(nd P i).kids.take o++[(nd P i).kids.getD o 0]:=eU ho
  generalize jN:(nd P i).kids.getD o 0=k at *
  obtain ⟨kn,rfl⟩ :∃kn:Nat,k=kn:=⟨k.toNat,by omega⟩
  rw[dg] at hu ⊢
  have eM:kn<up.length:=by rw[h.len];omega
  refine⟨by rw[List.length_set];exact h.len,fun j hj=>?_,fun p q Ke hp hq=>?_,fun j hj=>?_⟩
  · rw[GP eM]
    by_cases e:kn=j
    · subst e;rw[if_pos rfl]
      exact .inr ⟨i,o,rfl,by omega,ho,.inr ⟨rfl,by omega⟩⟩
    · rw[if_neg e]
      rcases h.low j hj with h1 | ⟨p,q,h1,h2,h3,h4⟩
      · exact .inl h1
      · exact .inr ⟨p,q,h1,h2,h3,by omega⟩
  · by_cases e:p=i∧q=o
    · obtain ⟨rfl,rfl⟩:=e
      exact⟨kn,by omega,by omega,jN,by rw[GP eM,if_pos rfl]⟩
    · obtain ⟨j,h1,h2,h3,h4⟩:=h.set p q (by omega) hp hq
      refine⟨j,h1,h2,h3,?_⟩
      rw[GP eM,if_neg ?_,h4]
      rintro rfl
      rw[h4] at hu
      dsimp only at hu
      omega
  · rw[mN,← List.append_assoc,qJ,h.zA j hj,GP eM]
    by_cases e:kn=j
    · subst e;rw[if_neg (by omega),if_pos rfl,if_pos (by dsimp only;omega)];simp
    · have hb:((kn:Int) == (j:Int))=false:=by rw[beq_eq_false_iff_ne];omega
      rw[if_neg e,List.count_singleton,hb]
      rfl
theorem Y2 {P:List Nd} {i:Nat} (hi:i<P.length):P.take (i+1)=P.take i++[nd P i]:=eU hi
theorem UI.next {P:List Nd} {i:Nat} {up:df} (h:UI P i (nd P i).kids.length up) (hi:i<P.length):UI P (i+1) 0 up where
  len:=h.len
  low j hj:=by
    rcases h.low j hj with h1 | ⟨p,q,h1,h2,h3,h4⟩
    · exact .inl h1
    · exact .inr ⟨p,q,h1,h2,h3,by omega⟩
  set p q Ke hp hq:=h.set p q (by
    by_cases e:p=i
    · subst e;exact .inr ⟨rfl,hq⟩
    · omega) hp hq
  zA j hj:=by
    rw[lW,oe,Y2 hi,IU,← h.zA j hj,zK]
theorem UI.kids {P:List Nd} {i:Nat} (hi:i<P.length) {up:df} (h:UI P i 0 up):∀ o u,o≤(nd P i).kids.length→mV P.length i (nd P i).kids up o=some u→UI P i o u:=by
  intro o
  induction o with
  | zero=>intro u _ hu;cases hu;exact h
  | succ o ih =>
    intro u ho hu
    unfold mV at hu
    obtain ⟨v,hv,hu⟩:=xL.1 hu
    by_cases hc:kI P.length i ((nd P i).kids.getD o 0)=true∧(dP v ((nd P i).kids.getD o 0).toNat).1<0
    · rw[if_pos hc] at hu
      cases hu
      exact (ih v (by omega) hv).Bf hi (by omega) hc.1 hc.2
    · rw[if_neg hc] at hu;cases hu
theorem Lx {m:ae} {x:Nd} (h:lh m x=true) (hc:x.cls = -1):x.kids.length=0:=by
  unfold lh at h
  rw[if_pos hc,decide_eq_true_eq] at h
  exact h.1
theorem UI.node {m:ae} {P:List Nd} {i:Nat} (hi:i<P.length) {up u:df} (h:UI P i 0 up) (hu:nD m P i up=some u):UI P (i+1) 0 u:=by
  unfold nD at hu
  split at hu
  · cases hu
  split at hu
  · cases hu
  rename_i h1 h2
  rw[xQ] at h2
  split at hu
  · rename_i h3
    cases hu
    have:=Lx h2 h3
    refine UI.next ?_ hi
    rw[this];exact h
  split at hu
  · cases hu
  exact (UI.kids hi h _ _ (aV _) hu).next hi
theorem xD {m:ae} {P:List Nd}:∀ i u,i≤P.length→lz m P i=some u→UI P i 0 u:=by
  intro i
  induction i with
  | zero=>intro u _ hu;cases hu;exact UI.zero P
  | succ i ih =>
    intro u hi hu
    unfold lz at hu
    obtain ⟨v,hv,hu⟩:=xL.1 hu
    exact (ih v (by omega) hv).node (by omega) hu
theorem UI.lt {P:List Nd} {i o:Nat} {up:df} (h:UI P i o up) {k:Nat} (hk:k<P.length) (h0:0≤(dP up k).1):(dP up k).1.toNat<k:=by
  rcases h.low k hk with h1 | ⟨p,q,h1,h2,h3,h4⟩
  · rw[h1] at h0;exact absurd h0 (by decide)
  · rw[h1];simpa using h2
theorem ahJ {P:List Nd} {i o:Nat} {up:df} (h:UI P i o up):∀ k,k<P.length→∀ f g,k+1≤f→k+1≤g→zz up f k=zz up g k:=by
  intro k
  induction k using BA with
  | _ k ih =>
    intro hk f g hf hg
    obtain ⟨f,rfl⟩ :∃f',f=f'+1:=⟨f - 1,by omega⟩
    obtain ⟨g,rfl⟩ :∃g',g=g'+1:=⟨g - 1,by omega⟩
    show (if 0≤(dP up k).1 then dP up k::zz up f (dP up k).1.toNat else [])=(if 0≤(dP up k).1 then dP up k::zz up g (dP up k).1.toNat else [])
    by_cases h0:0≤(dP up k).1
    · have hl:=h.lt hk h0
      rw[if_pos h0,if_pos h0,ih _ hl (by omega) f g (by omega) (by omega)]
    · rw[if_neg h0,if_neg h0]
theorem Bp {P:List Nd} {i o:Nat} {up:df} (h:UI P i o up) {k:Nat} (hk:k<P.length) :
    ki up k=if 0≤(dP up k).1 then dP up k::ki up (dP up k).1.toNat else []:=by
  show (if 0≤(dP up k).1 then dP up k::zz up k (dP up k).1.toNat else [])=_
  by_cases h0:0≤(dP up k).1
  · have hl:=h.lt hk h0
    rw[if_pos h0,if_pos h0]
    congr 1
    exact ahJ h _ (by omega) _ _ (by omega) (by omega)
  · rw[if_neg h0,if_neg h0]
theorem ahx {m:ae} {P:List Nd} {i:Nat} {up:df} (hi:i<P.length) (h:lz m P i=some up) (hn:nD m P i up=none):mj m P=none:=by
  unfold mj
  split
  · refine Lw (o:=i+1) ?_ _ (by omega)
    show (lz m P i).bind _=none
    rw[h];exact hn
  · rfl
theorem YW {n i:Nat} {kids:List Int} {up u:df} {o:Nat} (h:mV n i kids up o=some u) (ho:o<kids.length) (hn:¬(kI n i (kids.getD o 0)=true∧(dP u (kids.getD o 0).toNat).1<0)):mV n i kids up kids.length=none:=by
  refine YZ (o:=o+1) ?_ _ (by omega)
  show (mV n i kids up o).bind _=none
  rw[h]
  show (if _ then _ else _)=_
  rw[if_neg hn]
theorem YX {n i:Nat} {kids:List Int} {up u:df} {o:Nat} (h:mV n i kids up o=some u) (hn:kI n i (kids.getD o 0)=true∧(dP u (kids.getD o 0).toNat).1<0):mV n i kids up (o+1)=some (u.set (kids.getD o 0).toNat ((i:Int),(o:Int))):=by
  show (mV n i kids up o).bind _=_
  rw[h]
  show (if _ then _ else _)=_
  rw[if_pos hn]
end T
namespace T
theorem Y3 {m:ae} {P:List Nd} {n:Nat} {up:df} (h:lz m P n=some up):∀ i,i<n→∃ u v,lz m P i=some u∧nD m P i u=some v:=by
  intro i hi
  cases hu:lz m P i with
  | none=>rw[Lw hu n (by omega)] at h;cases h
  | some u =>
    cases hv:nD m P i u with
    | none =>
      have h1:lz m P (i+1)=none:=by
        show (lz m P i).bind _=none
        rw[hu];exact hv
      rw[Lw h1 n (by omega)] at h;cases h
    | some v=>exact⟨u,v,rfl,hv⟩
theorem ahK {n i:Nat} {kids:List Int} {up v:df} (h:mV n i kids up kids.length=some v):∀ k∈kids,kI n i k=true:=by
  intro k hk
  obtain ⟨o,ho,rfl⟩:=lZ hk
  cases hw:mV n i kids up o with
  | none=>rw[YZ hw kids.length (by omega)] at h;cases h
  | some w =>
    by_cases hc:kI n i (kids.getD o 0)=true∧(dP w (kids.getD o 0).toNat).1<0
    · have:=hc.1
      rwa [ay,bm ho] at this
    · rw[YW hw ho hc] at h;cases h
theorem Ly {m:ae} {P:List Nd} {i:Nat} {u v:df} (h:nD m P i u=some v) :
    ¬(0<i∧(dP u i).1<0)∧lh m (nd P i)=true∧((nd P i).cls≠-1→pg P (nd P i).cls (ki u i)=false)∧jM m P.length i (nd P i)=true:=by
  unfold nD at h
  split at h
  · cases h
  rename_i h1
  split at h
  · cases h
  rename_i h2
  rw[xQ] at h2
  split at h
  · rename_i h3
    refine⟨h1,h2,fun hh=>absurd h3 hh,?_⟩
    unfold jM
    rw[h2,gV,List.eq_nil_of_length_eq_zero (Lx h2 h3)];rfl
  split at h
  · cases h
  rename_i h3 h4
  refine⟨h1,h2,fun _=>by simpa using h4,?_⟩
  unfold jM
  rw[h2,gV,eW]
  exact ahK h
theorem Y4 {P:List Nd} (i:Nat) (k:Int):(eQ (P.take i)).count k≤(eQ P).count k:=by
  conv=>rhs;rw[← xI i P]
  unfold eQ
  rw[List.flatMap_append,qJ];omega
theorem DP {m:ae} {P:List Nd} {up:df} (h:mj m P=some up):(1≤P.length∧P.length≤20000)∧lz m P P.length=some up:=by
  unfold mj at h
  split at h
  · rename_i hs;exact⟨hs,h⟩
  · cases h
theorem UI.full {P:List Nd} {up:df} (h:UI P P.length 0 up) (j:Nat) (hj:j<P.length):(eQ P).count (j:Int)=if 0≤(dP up j).1 then 1 else 0:=by
  have:=h.zA j hj
  rwa [lW,oe,zK] at this
theorem Bo {m:ae} {P:List Nd} {up:df} (h:mj m P=some up):iG m P=true:=by
  obtain ⟨hs,hf⟩:=DP h
  have fJ:=Y3 hf
  have jS:=xD _ _ (aV _) hf
  have mD:∀ j,1≤j→j<P.length→(eQ P).count (j:Int)=1:=fun j h1 h2=>by
    obtain ⟨u,v,hu,hv⟩:=fJ j h2
    have hn:=(Ly hv).1
    have hc:=(xD _ _ (by omega) hu).zA j h2
    rw[lW,oe,if_pos (by omega)] at hc
    have hle:=Y4 (P:=P) j (j:Int)
    have DN:=jS.full j h2
    split at DN<;>omega
  rw[Fj hs fun i hi=>by obtain ⟨u,v,_,hv⟩:=fJ i hi;exact (Ly hv).2.2.2,Bool.not_eq_true']
  rw[v3]
  intro x hx
  obtain ⟨j,hj,rfl⟩:=lZ hx
  rw[List.length_drop,yM] at hj
  rw[List.getElem_drop]
  have:=Fq (eQ P) (j:=1+j) (show 1+j<P.length by omega)
  rw[ay,bm (by rw[yM];omega),mD (1+j) (by omega) (by omega)] at this
  rw[gw] at this
  rw[this];decide
theorem ahL {P:List Nd} (hd:Down P) (R:cW→Prop) (dV:∀ s o,s.1<P.length→o<(nd P s.1).kids.length→R s→R (lI P s o)) :
    ∀ (f:Nat) (s:cW),s.1<P.length→R s→∀ v∈kP P f s,R v:=by
  intro f
  induction f with
  | zero=>intro s _ _ v hv;exact absurd hv (by simp[kP])
  | succ f ih =>
    intro s hs hr v hv
    rw[kP] at hv
    rcases bW.1 hv with rfl | hv
    · exact hr
    · obtain ⟨t,ht,hv⟩:=List.mem_flatMap.1 hv
      obtain ⟨o,ho,rfl⟩:=tX (rY.1 ht)
      exact ih _ (ud hd hs ho).2.1 (dV s o hs ho hr) v hv
def od (P:List Nd) (l:df) (x:List (List Bool)):List (List Bool):=l.foldl (fun acc a=>bq acc (nd P a.1.toNat).cls.toNat a.2.toNat) x
def DR (m:ae) (P:List Nd) (u:df) (s:cW):Prop:=(ki u s.1).map (fun a=>(nd P a.1.toNat).cls)=s.2.2.reverse∧s.2.1=od P (ki u s.1).reverse (cQ m)
theorem GQ {m:ae} {P:List Nd} (hd:Down P) {i:Nat} {u:df} (h:UI P i 0 u) (h0:0<P.length):∀ v∈vs P (root m),v.1≤i→DR m P u v:=by
  refine ahL hd (fun s=>s.1≤i→DR m P u s) ?_ _ (root m) h0 ?_
  · intro s o hs ho hr hle
    obtain ⟨h1,h2,h3⟩:=ud hd hs ho
    obtain ⟨r1,r2⟩:=hr (by omega)
    obtain ⟨j,Cb,tJ,hj3,hj4⟩:=h.set s.1 o (.inl (by omega)) hs ho
    have e:(lI P s o).1=j:=by omega
    unfold DR
    rw[e,Bp h Cb,hj4,if_pos (by dsimp only;omega)]
    dsimp only
    rw[dg]
    refine⟨?_,?_⟩
    · rw[du,r1]
      show _=(s.2.2++[(nd P s.1).cls]).reverse
      rw[List.reverse_append];rfl
    · unfold od
      rw[Hg,List.foldl_append]
      show bq s.2.1 _ _=_
      rw[r2];rfl
  · intro _
    have yv:dP u 0=(-1,0):=by
      rcases h.low 0 h0 with h1 | ⟨p,q,h1,h2,_⟩
      · exact h1
      · omega
    unfold DR
    rw[Bp h (show (root m).1<P.length from h0)]
    show _∧_
    have:(dP u (root m).1)=(-1,0):=yv
    rw[this,if_neg (by decide)]
    exact⟨rfl,rfl⟩
theorem Lz {m:ae} {P:List Nd} {u:df} {s:cW} (h:DR m P u s) (c:Int):pg P c (ki u s.1)=s.2.2.contains c:=by
  have h1:pg P c (ki u s.1)=((ki u s.1).map fun a=>(nd P a.1.toNat).cls).any (· == c):=by
    unfold pg;rw[List.any_map];rfl
  rw[h1,h.1,List.any_reverse,Bool.eq_iff_iff,List.any_eq_true,List.contains_iff_mem]
  constructor
  · rintro ⟨x,hx,e⟩
    rw[beq_iff_eq] at e;subst e;exact hx
  · exact fun hx=>⟨c,hx,by simp⟩
theorem Y5 {m:ae} {P:List Nd} (h:iG m P=true) {j:Nat} (hj:j<P.length) :∃v∈vs P (root m),v.1=j:=by
  have:=VN h (s:=root m) rfl j hj
  have hm:j∈(vs P (root m)).map (·.1):=by
    rw[← List.count_pos_iff];omega
  obtain ⟨v,hv,e⟩:=bV.1 hm
  exact⟨v,hv,e⟩
theorem ahN {m:ae} {P:List Nd} (h:iG m P=true) (hn:mj m P=none) :∃v∈vs P (root m),v.2.2.contains (nd P v.1).cls=true:=by
  have hl:=sK h
  have hd:=sJ h
  have lJ :∃i u,i<P.length∧lz m P i=some u∧nD m P i u=none:=by
    refine Classical.byContradiction fun k7=>?_
    have fJ:∀ i,i≤P.length→∃ u,lz m P i=some u:=by
      intro i
      induction i with
      | zero=>exact fun _=>⟨_,rfl⟩
      | succ i ih =>
        intro hi
        obtain ⟨u,hu⟩:=ih (by omega)
        cases hv:nD m P i u with
        | none=>exact absurd ⟨i,u,by omega,hu,hv⟩ k7
        | some v =>
          refine⟨v,?_⟩
          show (lz m P i).bind _=_
          rw[hu];exact hv
    obtain ⟨u,hu⟩:=fJ _ (aV _)
    unfold mj at hn
    rw[if_pos hl,hu] at hn
    cases hn
  obtain ⟨i,u,hi,hu,hv⟩:=lJ
  have jS:=xD i u (by omega) hu
  obtain ⟨v,cu,LA⟩:=Y5 h hi
  refine⟨v,cu,?_⟩
  have jJ:=GQ hd jS (by omega) v cu (by omega)
  rw[← Lz jJ,LA]
  have tZ:=Az h hi
  unfold jM at tZ
  rw[a7,eW] at tZ
  unfold nD at hv
  split at hv
  · rename_i hp
    obtain ⟨p,w6,DT,_⟩:=VK h (show 1≤i by omega) hi
    have:i∈kN P p:=by rw[← List.count_pos_iff];omega
    unfold kN at this
    obtain ⟨k,hk,e⟩:=bV.1 this
    obtain ⟨q,hq,rfl⟩:=lZ hk
    obtain ⟨j,h1,h2,h3,h4⟩:=jS.set p q (.inl w6) (by omega) hq
    rw[ay,bm hq,gw] at h3
    rw[h3,dg] at e
    subst e
    rw[h4] at hp
    exact absurd hp.2 (by dsimp only;omega)
  split at hv
  · rename_i h2
    rw[tZ.1] at h2;cases h2
  split at hv
  · cases hv
  split at hv
  · assumption
  exfalso
  have ahO:∀ o,o≤(nd P i).kids.length→∃ w,mV P.length i (nd P i).kids u o=some w:=by
    intro o
    induction o with
    | zero=>exact fun _=>⟨_,rfl⟩
    | succ o ih =>
      intro ho
      obtain ⟨w,hw⟩:=ih (by omega)
      have yL:=tZ.2 _ (az (l:=(nd P i).kids) (i:=o) (d:=0) (by omega))
      refine⟨_,YX hw ⟨yL,?_⟩⟩
      unfold kI at yL
      rw[decide_eq_true_eq] at yL
      have hwi:=UI.kids hi jS o w (by omega) hw
      have mN:(nd P i).kids.take (o+1)=(nd P i).kids.take o++[(nd P i).kids.getD o 0]:=eU (by omega)
      generalize jN:(nd P i).kids.getD o 0=k at *
      obtain ⟨kn,rfl⟩ :∃kn:Nat,k=kn:=⟨k.toNat,by omega⟩
      rw[dg]
      refine Classical.byContradiction fun l9=>?_
      have hc:=hwi.zA kn (by omega)
      rw[if_pos (by omega)] at hc
      have h1:=VJ h (j:=kn) (by omega) (by omega)
      have h2:(eQ (P.take (i+1))).count (kn:Int)≤(eQ P).count (kn:Int):=Y4 _ _
      rw[Y2 hi,IU,qJ] at h2
      have h3:((nd P i).kids.take (o+1)).count (kn:Int)≤(nd P i).kids.count (kn:Int):=by
        conv=>rhs;rw[← xI (o+1) (nd P i).kids]
        rw[qJ];omega
      rw[mN,qJ] at h3
      rw[qJ] at hc
      have h4:([(kn:Int)]:List Int).count (kn:Int)=1:=by simp
      omega
  obtain ⟨w,hw⟩:=ahO _ (aV _)
  rw[hw] at hv;cases hv
end T
namespace T
def td (m:ae) (P:List Nd) (up:df) (k:Nat):List (List Bool):=od P (ki up k) (cQ m)
theorem Y6 {P:List Nd} {i o:Nat} {up:df} (h:UI P i o up):∀ k,k<P.length→∀ a∈ki up k,∃ p q:Nat,a=((p:Int),(q:Int))∧p<k∧q<(nd P p).kids.length:=by
  intro k
  induction k using BA with
  | _ k ih =>
    intro hk a ha
    rw[Bp h hk] at ha
    rcases h.low k hk with h1 | ⟨p,q,h1,h2,h3,_⟩
    · rw[h1,if_neg (by decide)] at ha;cases ha
    · rw[h1,if_pos (by dsimp only;omega)] at ha
      rcases bW.1 ha with rfl | ha
      · exact⟨p,q,rfl,h2,h3⟩
      · dsimp only at ha
        rw[dg] at ha
        obtain ⟨p',q',e1,e2,e3⟩:=ih p h2 (by omega) a ha
        exact⟨p',q',e1,by omega,e3⟩
theorem GO {m:ae} {P:List Nd} (h:iG m P=true) {p:Nat} (hp:p<P.length) {q:Nat} (hq:q<(nd P p).kids.length):0≤(nd P p).cls∧(nd P p).cls<m.cls.length:=by
  have tZ:=Az h hp
  unfold jM at tZ
  rw[a7] at tZ
  have h1:=tZ.1
  by_cases hc:(nd P p).cls = -1
  · have:=Lx h1 hc;omega
  · unfold lh at h1
    rw[if_neg hc,decide_eq_true_eq] at h1
    exact⟨h1.1,h1.2.1⟩
theorem Y7 {m:ae} {P:List Nd} {up:df} (h:mj m P=some up):∀ v∈vs P (root m),v.2.2.contains (nd P v.1).cls=false:=by
  intro v hv
  have hs:=Bo h
  have hl:=sK hs
  have hd:=sJ hs
  have pM:=FV hd _ (root m) (show 0<P.length by omega) v hv
  obtain ⟨u,w,hu,hw⟩:=Y3 (DP h).2 v.1 pM
  have jS:=xD _ _ (by omega) hu
  have jJ:=GQ hd jS (by omega) v hv (by omega)
  rw[← Lz jJ]
  by_cases hc:(nd P v.1).cls = -1
  · unfold pg
    rw[v3]
    intro a ha
    obtain ⟨p,q,e1,e2,e3⟩:=Y6 jS v.1 pM a ha
    subst e1
    have:=GO hs (show p<P.length by omega) e3
    dsimp only
    rw[dg,hc,beq_iff_eq]
    omega
  · exact (Ly hw).2.2.1 hc
theorem ahQ (x:List (List Bool)) {a b:Nat} (h:a≠b) (o q:Nat):bq (bq x a o) b q=bq (bq x b q) a o:=by
  have g:∀ {a b:Nat} (r:List Bool),a≠b→(x.set a r).getD b default=x.getD b default:=fun r h=>by
    rw[ay,List.getElem?_set_ne h,← ay]
  unfold bq
  rw[g _ h,g _ (Ne.symm h)]
  exact List.set_comm _ _ h
def vS (P:List Nd) (l:df):List Nat:=l.map fun a=>(nd P a.1.toNat).cls.toNat
theorem ahR {P:List Nd} (a:Int × Int):∀ (l:df) (x:List (List Bool)),(nd P a.1.toNat).cls.toNat ∉ vS P l→od P (l++[a]) x=od P (a::l) x:=by
  intro l
  induction l with
  | nil=>intro x _;rfl
  | cons b l ih =>
    intro x hx
    have h1:(nd P b.1.toNat).cls.toNat≠(nd P a.1.toNat).cls.toNat:=fun e=>hx (by unfold vS;rw[du,e];simp)
    have h2:(nd P a.1.toNat).cls.toNat ∉ vS P l:=fun e=>hx (by unfold vS at e ⊢;rw[du];exact List.mem_cons_of_mem _ e)
    show od P (l++[a]) (bq x _ _)=od P l (bq (bq x _ _) _ _)
    rw[ih _ h2]
    show od P l (bq (bq x _ _) _ _)=_
    rw[ahQ x h1]
theorem ahS {P:List Nd}:∀ (l:df) (x:List (List Bool)),(vS P l).Nodup→od P l.reverse x=od P l x:=by
  intro l
  induction l with
  | nil=>intro x _;rfl
  | cons b l ih =>
    intro x hx
    unfold vS at hx
    rw[du,qE] at hx
    rw[Hg,ahR b _ x (fun hm=>hx.1 (by unfold vS at hm;rw[List.map_reverse,rY] at hm;exact hm))]
    show od P l.reverse (bq x _ _)=od P l (bq x _ _)
    exact ih _ hx.2
theorem ahT {m:ae} {P:List Nd} {up:df} (h:mj m P=some up):∀ k,k<P.length→(vS P (ki up k)).Nodup:=by
  have hs:=Bo h
  have hl:=sK hs
  have hd:=sJ hs
  have jS:=xD _ _ (aV _) (DP h).2
  intro k
  induction k using BA with
  | _ k ih =>
    intro hk
    rw[Bp jS hk]
    rcases jS.low k hk with h1 | ⟨p,q,h1,h2,h3,_⟩
    · rw[h1,if_neg (by decide)];exact List.nodup_nil
    · rw[h1,if_pos (by dsimp only;omega)]
      unfold vS
      dsimp only
      rw[du,qE,dg]
      refine⟨fun hm=>?_,ih p h2 (by omega)⟩
      obtain ⟨a,ha,e⟩:=bV.1 hm
      obtain ⟨v,hv,LA⟩:=Y5 hs (show p<P.length by omega)
      have k7:=Y7 h v hv
      rw[← Lz (GQ hd jS (by omega) v hv (by omega)),LA] at k7
      unfold pg at k7
      rw[v3] at k7
      have:=k7 a ha
      obtain ⟨p',q',e1,e2,e3⟩:=Y6 jS p (by omega) a ha
      subst e1
      have c1:=GO hs (show p'<P.length by omega) e3
      have c2:=GO hs (show p<P.length by omega) h3
      dsimp only at e this
      rw[dg] at e this
      rw[beq_iff_eq] at this
      omega
theorem ahU {m:ae} {P:List Nd} {up:df} (h:mj m P=some up):∀ v∈vs P (root m),td m P up v.1=v.2.1:=by
  intro v hv
  have hs:=Bo h
  have hl:=sK hs
  have hd:=sJ hs
  have jS:=xD _ _ (aV _) (DP h).2
  have pM:=FV hd _ (root m) (show 0<P.length by omega) v hv
  rw[(GQ hd jS (by omega) v hv (by omega)).2,ahS _ _ (ahT h _ pM)];rfl
def uI (m:ae) (x:Nd) (left:List (List Bool)):Option Int :=
  if x.cls≠-1 then some 1099511627776
  else if 0<x.b5.length then (if lL m x left=true then some 1099511627776 else none)
  else if (iw m left x.cX).2=0 then some (iw m left x.cX).1 else none
def rR:List (Option Int)→Int→Option Int
  | [],b=>some b
  | none::_,_=>none
  | some v::l,b=>rR l (min b v)
theorem ahV {l l':List (Option Int)} (h:l.Perm l'):∀ b,rR l b=rR l' b:=by
  induction h with
  | nil=>exact fun _=>rfl
  | cons x _ ih=>intro b;cases x<;>simp only[rR,ih]
  | swap x y l =>
    intro b
    cases x<;>cases y<;>simp only[rR]
    congr 1;omega
  | trans _ _ h1 h2=>exact fun b=>(h1 b).trans (h2 b)
theorem ahW {m:ae} {P:List Nd}:∀ (L:List cW) (b:Int),b≤1099511627776→(∀ s∈L,s.2.2.contains (nd P s.1).cls=false) →
    rR (L.map fun s=>uI m (nd P s.1) s.2.1) b=if (jd P (gr m P) L b).2=true then some (jd P (gr m P) L b).1 else none:=by
  intro L
  induction L with
  | nil=>intro b _ _;rfl
  | cons s L ih =>
    intro b hb h
    have hc:=h s (by simp)
    have hL:=fun b hb=>ih b hb fun t ht=>h t (by simp[ht])
    rw[du,jd,if_neg (show ¬(s.2.2.contains (nd P s.1).cls=true) by rw[hc];simp)]
    generalize uX:(L.map fun s=>uI m (nd P s.1) s.2.1)=ml at *
    clear uX ih
    generalize eZ:gr m P b s=cs at *
    unfold gr at eZ
    subst eZ
    unfold uI
    by_cases h1:(nd P s.1).cls≠-1
    · rw[if_pos h1,if_pos h1,if_pos rfl]
      show rR _ (min b _)=_
      rw[Hj hb]
      exact hL b hb
    · rw[if_neg h1,if_neg h1]
      by_cases h2:0<(nd P s.1).b5.length
      · rw[if_pos h2,if_pos h2]
        by_cases h3:lL m (nd P s.1) s.2.1=true
        · rw[if_pos h3,h3,if_pos rfl]
          show rR _ (min b _)=_
          rw[Hj hb]
          exact hL b hb
        · rw[if_neg h3,if_neg h3];rfl
      · rw[if_neg h2,if_neg h2]
        by_cases h3:(iw m s.2.1 (nd P s.1).cX).2=0
        · rw[if_pos h3,h3,if_pos (show (((0:Int) == 0)=true) from rfl)]
          exact hL _ (by omega)
        · have h4:((iw m s.2.1 (nd P s.1).cX).2 == 0)=false:=beq_false_of_ne h3
          rw[if_neg h3,h4];rfl
def tc (m:ae) (P:List Nd) (up:df) (i:Nat):Option Int:=rR ((bn i).map fun k=>uI m (nd P k) (td m P up k)) 1099511627776
theorem ahX (x:Option Int):∀ (l:List (Option Int)) (b:Int),rR (l++[x]) b=(rR l b).bind fun c=>x.map (min c):=by
  intro l
  induction l with
  | nil=>intro b;cases x<;>rfl
  | cons y l ih=>intro b;cases y with
    | none=>rfl
    | some v=>exact ih _
theorem YT (m:ae) (P:List Nd) (up:df) (i:Nat):tc m P up (i+1)=(tc m P up i).bind fun c=>(uI m (nd P i) (td m P up i)).map (min c):=by
  unfold tc
  rw[List.range_succ,List.map_append]
  exact ahX _ _ _
theorem ahY {m:ae} {P:List Nd} (h:iG m P=true):((vs P (root m)).map (·.1)).Perm (bn P.length):=by
  have hl:=sK h
  rw[List.perm_iff_count]
  intro a
  by_cases ha:a<P.length
  · rw[VN h rfl a ha,List.nodup_range.count,if_pos (og.2 ha)]
  · rw[Mb.2,Mb.2 (by rw[og];exact ha)]
    intro hm
    obtain ⟨v,hv,e⟩:=bV.1 hm
    have:=FV (sJ h) _ (root m) (show 0<P.length by omega) v hv
    omega
def GK (m:ae) (P:List Nd):Int × Bool :=
  match mj m P with
  | none=>(0,false)
  | some up=>match tc m P up P.length with
    | none=>(0,false)
    | some b=>(b,true)
theorem ahp {m:ae} (hm:VM m) (P:List Nd):kD m P=GK m P:=by
  unfold GK
  cases hf:mj m P with
  | none =>
    dsimp only
    by_cases hs:iG m P=true
    · obtain ⟨v,hv,hh⟩:=ahN hs hf
      generalize hc:kD m P=c
      obtain ⟨n,ok⟩:=c
      cases ok
      · unfold kD at hc
        split at hc
        · cases hc
        · exact hc.symm
      · obtain ⟨_,_,h3⟩:=IP hc
        have:=((IQ h3).2 v hv).1
        rw[this] at hh;cases hh
    · have hw:pD m P (gr m P) 1099511627776=(1099511627776,false):=if_neg fun h=>hs h.2
      unfold kD
      rw[hw,if_neg (by simp)]
  | some up =>
    dsimp only
    have hs:=Bo hf
    have hw:pD m P (gr m P) 1099511627776=jd P (gr m P) (vs P (root m)) 1099511627776:=if_pos ⟨iu.2 hm,hs⟩
    have hr:=ahW (m:=m) (P:=P) (vs P (root m)) 1099511627776 (Int.le_refl _) (Y7 hf)
    have he:tc m P up P.length=rR ((vs P (root m)).map fun s=>uI m (nd P s.1) s.2.1) 1099511627776:=by
      unfold tc
      rw[← ahV ((ahY hs).map _),List.map_map]
      congr 1
      refine List.map_congr_left fun v hv=>?_
      show uI m (nd P v.1) (td m P up v.1)=_
      rw[ahU hf v hv]
    rw[he,hr]
    unfold kD
    rw[hw]
    by_cases h2:(jd P (gr m P) (vs P (root m)) 1099511627776).2=true
    · rw[if_pos h2,if_pos h2]
    · rw[if_neg h2,if_neg h2]
end T
namespace T
end T
namespace T
def nP (x y:Ob) (A:List (List AV)) (Y:List (List Bool)):List Ob:=x::y::.arr 1 A::oZ Y
theorem GM (x y:Ob) (A:List (List AV)) (Y:List (List Bool)):(nP x y A Y)[0]?=some x:=rfl
theorem GN (x y:Ob) (A:List (List AV)) (Y:List (List Bool)):(nP x y A Y)[1]?=some y:=rfl
theorem DQ (x y:Ob) (A:List (List AV)) (Y:List (List Bool)):(nP x y A Y)[2]?=some (.arr 1 A):=rfl
theorem YY (x y:Ob) (A:List (List AV)) {Y:List (List Bool)} {i:Nat} (h:i<Y.length):(nP x y A Y)[3+i]?=some (.arr 1 (bf (Y.getD i default))):=by
  have:=nOk y A h
  have e:3+i=(2+i)+1:=by omega
  rw[e];exact this
theorem nPs (x y:Ob) (A:List (List AV)) (Y:List (List Bool)) (i:Nat) (r:List Bool):(nP x y A Y).set (3+i) (.arr 1 (bf r))=nP x y A (Y.set i r):=by
  have:=nOs y A Y i r
  have e:3+i=(2+i)+1:=by omega
  rw[e]
  show x::(nO y A Y).set (2+i) _=_
  rw[this];rfl
theorem ahI {x:List (List Bool)} {i:Nat} {r:List Bool} (hr:r.length=(x.getD i default).length):(x.set i r).map tu=x.map tu:=by
  apply km
  intro j
  rw[bR,bR,bO]
  split
  · rename_i e;subst e
    split
    · rename_i h2;rw[bm h2] ;rw[ay,bm h2] at hr;simpa using hr
    · rename_i h2;rw[dM (by omega)]
  · rfl
theorem ahF {w o k:Nat} {r:List Bool} (hw:r.length=w) (h:∀ b,b<k→r.getD b false=(b == o)) (hk:k<w):∀ b,b<k+1→(r.set k (k == o)).getD b false=(b == o):=by
  intro b hb
  rw[ay,bO]
  by_cases e:k=b
  · subst e;rw[if_pos rfl,if_pos (by omega)];rfl
  · rw[if_neg e,← ay];exact h b (by omega)
theorem ahH {w o:Nat} {r:List Bool} (hw:r.length=w) (h:∀ b,b<w→r.getD b false=(b == o)):r=lG w o:=by
  apply km
  intro b
  unfold lG
  rw[bO,mo]
  by_cases hb:b<w
  · have:=h b hb
    rw[ay,bm (by omega),gw] at this
    rw[bm (by omega),this]
    by_cases e:o=b
    · subst e;rw[if_pos rfl,if_pos hb];simp
    · rw[if_neg e,Hl hb]
      congr 1
      exact beq_false_of_ne (Ne.symm e)
  · rw[dM (by omega)]
    by_cases e:o=b
    · subst e;rw[if_pos rfl,if_neg hb]
    · rw[if_neg e,dM (by simp;omega)]
end T

