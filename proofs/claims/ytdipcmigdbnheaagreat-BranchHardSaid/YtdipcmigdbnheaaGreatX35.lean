import Derived.Test.YtdipcmigdbnheaaGreatX34
import Derived.Test.YtdipcmigdbnheaaGreatX25
import Derived.Test.YtdipcmigdbnheaaGreatX26
set_option linter.unusedVariables false
set_option linter.unusedSimpArgs false
set_option linter.unnecessarySimpa false
set_option linter.unusedSectionVars false
set_option maxHeartbeats 64000000
set_option maxRecDepth 20000
open List renaming mem_cons→bZ,map_append→fB,mem_map→b7,mem_reverse→sC,flatMap_cons→pB,length→nL,length_map→dU,getElem?_map→bN,getElem?_eq_getElem→bI,getD_eq_getElem?_getD→ay,length_append→bJ,getElem?_eq_none→du,map_cons→cR,count_cons→AE,count_append→qb,count_eq_zero→K',mem_flatMap→yD
open Nat renaming strongRecOn→C6
open Option renaming map_some→ed
open Go Go.Am
namespace T
abbrev dg:=Nat × List (List Bool) × List Int
def pY:List Int→AV
  | []=>.lit (.slice none 0 0)
  | x::r=>.tree 1 (ints (x::r))
def lr (s:dg):List AV:=[.lit (.int .i64 s.1),.tree 1 (rowsOf aE s.2.1),pY s.2.2]
theorem VH (l:List Int):(∃ y,pY l=AV.lit y∧y.oneCell'=true)∨∃ s r,pY l=.tree s r:=by
  cases l with
  | nil=>exact .inl ⟨_,rfl,rfl⟩
  | cons x r=>exact .inr ⟨_,_,rfl⟩
theorem VI (l:List Int) (x:Value):iO [pY l,.lit x]=true:=by cases l<;>rfl
theorem adU (l:List Int):cm (pY l)=true:=by cases l<;>rfl
instance:Row lr 3:=⟨fun _=>rfl,fun x v hv=>by
  simp only[lr,bZ,List.not_mem_nil,or_false] at hv
  rcases hv with rfl | rfl | rfl
  · exact .inl ⟨_,rfl,rfl⟩
  · exact .inr ⟨_,_,rfl⟩
  · exact VH _⟩
def nd (P:List Nd) (i:Nat):Nd:=P.getD i default
def lM (P:List Nd) (s:dg) (o:Nat):dg:=(((nd P s.1).kids.getD o 0).toNat,bF s.2.1 (nd P s.1).cls.toNat o,s.2.2++[(nd P s.1).cls])
def g6 (P:List Nd) (s:dg) (n:Nat):List dg:=(List.range n).map (lM P s)
def ov (P:List Nd) (s:dg):List dg:=g6 P s (nd P s.1).kids.length
theorem VK (P:List Nd) (s:dg) (n:Nat):g6 P s (n+1)=g6 P s n++[lM P s n]:=by unfold g6;rw[List.range_succ,fB];rfl
def ky (P:List Nd):Nat→dg→List dg
  | 0,_=>[]
  | f+1,s=>s::((ov P s).reverse.flatMap (ky P f))
def vs (P:List Nd) (s:dg):List dg:=ky P (P.length - s.1) s
def Down (P:List Nd):Prop:=∀ i,i<P.length→∀ k∈(nd P i).kids,(i:Int)<k∧k<P.length
theorem CM {m:ah} {P:List Nd} (h:iK m P=true) {i:Nat} (hi:i<P.length):jQ m P.length i (nd P i)=true:=by
  cases hb:jQ m P.length i (nd P i) with
  | true=>rfl
  | false=>rw[Ov hi hb] at h;cases h
theorem tq {m:ah} {P:List Nd} (h:iK m P=true):Down P:=fun i hi k hk=>by
  have:=CM h hi
  unfold jQ at this
  rw[Bool.and_eq_true,List.all_eq_true] at this
  have h2:=this.2 k hk
  unfold kl at h2
  exact of_decide_eq_true h2
theorem tE {m:ah} {P:List Nd} (h:iK m P=true):1≤P.length∧P.length≤20000:=by
  by_cases hs:1≤P.length∧P.length≤20000
  · exact hs
  · rw[Ow hs] at h;cases h
theorem tp {P:List Nd} {s t:dg} (h:t∈ov P s) :∃o,o<(nd P s.1).kids.length∧t=lM P s o:=by
  unfold ov g6 at h
  obtain ⟨o,ho,rfl⟩:=b7.1 h
  exact⟨o,List.mem_range.1 ho,rfl⟩
theorem uP {P:List Nd} (hd:Down P) {s:dg} (hs:s.1<P.length) {o:Nat} (ho:o<(nd P s.1).kids.length):s.1<(lM P s o).1∧(lM P s o).1<P.length∧(((lM P s o).1:Nat):Int)=(nd P s.1).kids.getD o 0:=by
  have:=hd s.1 hs _ (az (l:=(nd P s.1).kids) (i:=o) (d:=0) ho)
  unfold lM
  dsimp only
  omega
theorem ad2 {P:List Nd} (hd:Down P):∀ (f:Nat) (s:dg),s.1<P.length→P.length - s.1≤f→ky P f s=ky P (P.length - s.1) s:=by
  intro f
  induction f using C6 with
  | _ f ih =>
    intro s hs hf
    cases f with
    | zero=>omega
    | succ f =>
      obtain ⟨g,hg⟩ :∃g,P.length - s.1=g+1:=⟨P.length - s.1 - 1,by omega⟩
      rw[hg,ky,ky]
      refine congrArg _ ?_
      have key:∀ t∈(ov P s).reverse,ky P f t=ky P g t:=fun t ht=>by
        obtain ⟨o,ho,rfl⟩:=tp (sC.1 ht)
        obtain ⟨h1,h2,_⟩:=uP hd hs ho
        rw[ih f (by omega) _ h2 (by omega),ih g (by omega) _ h2 (by omega)]
      generalize (ov P s).reverse=L at key
      induction L with
      | nil=>rfl
      | cons t L CO=>rw[pB,pB,key t (by simp),CO fun u hu=>key u (by simp[hu])]
theorem Cc {P:List Nd} (hd:Down P) {s:dg} (hs:s.1<P.length):vs P s=s::(ov P s).reverse.flatMap (vs P):=by
  unfold vs
  obtain ⟨g,hg⟩ :∃g,P.length - s.1=g+1:=⟨P.length - s.1 - 1,by omega⟩
  rw[hg,ky]
  refine congrArg _ ?_
  have key:∀ t∈(ov P s).reverse,ky P g t=ky P (P.length - t.1) t:=fun t ht=>by
    obtain ⟨o,ho,rfl⟩:=tp (sC.1 ht)
    obtain ⟨h1,h2,_⟩:=uP hd hs ho
    exact ad2 hd g _ h2 (by omega)
  generalize (ov P s).reverse=L at key
  induction L with
  | nil=>rfl
  | cons t L CO=>rw[pB,pB,key t (by simp),CO fun u hu=>key u (by simp[hu])]
def ja {α:Type} (P:List Nd) (step:α→dg→α × Bool):List dg→α→α × Bool
  | [],a=>(a,true)
  | s::L,a=>if s.2.2.contains (nd P s.1).cls=true then (a,false) else if (step a s).2=true then ja P step L (step a s).1 else ((step a s).1,false)
def root (m:ah):dg:=(0,ef m,[])
def ph {α:Type} (m:ah) (P:List Nd) (step:α→dg→α × Bool) (a:α):α × Bool :=
  if dI m=0∧iK m P=true then ja P step (vs P (root m)) a else (a,false)
def ya (m:ah) (P:List Nd) (s:dg):Prop:=s.1<P.length∧dN m s.2.1∧s.2.2.length≤s.1
theorem Bu {m:ah} {x y:List (List Bool)} (h:dN m x) (he:y.map nL=x.map nL):dN m y:=by
  have hl:=congrArg nL he
  rw[dU,dU] at hl
  refine⟨by rw[hl];exact h.1,fun i hi=>?_⟩
  have h2:=congrArg (fun z=>z[i]?) he
  simp only[bN] at h2
  rw[bI hi,bI (by omega)] at h2
  simp only[ed,Option.some.injEq] at h2
  rw[← h.2 i (by omega),ay,ay,bI hi,bI (by omega)]
  exact h2
theorem adW {m:ah} {P:List Nd} (hd:Down P) {s:dg} (h:ya m P s) {o:Nat} (ho:o<(nd P s.1).kids.length):ya m P (lM P s o) :=
  ⟨(uP hd h.1 ho).2.1,Bu h.2.1 (Er _ _ _),by
    have h1:=(uP hd h.1 ho).1
    have h2:=h.2.2
    show (s.2.2++[_]).length≤_
    rw[bJ,List.length_singleton];omega⟩
theorem BA {m:ah} (h:VM m):dN m (ef m):=by
  unfold ef
  rw[if_pos (iJ.2 h)]
  refine⟨by simp[kI],fun i hi=>?_⟩
  have hi':i<m.cls.length:=by simpa [kI] using hi
  unfold kI
  rw[iu _ _ _ hi',List.length_replicate]
def yb:List dg→Prop
  | []=>True
  | t::T=>T.length≤24 * t.1∧yb T
theorem yb.push {T:List dg} {i:Nat} (h:yb T) (hT:T.length≤24 * i):∀ (L:List dg),(∀ t∈L,i<t.1)→L.length≤24→yb (L++T)
  | [],_,_=>h
  | t::L,hl,hn=>by
    have h1:=hl t (by simp)
    have h2:=yb.push h hT L (fun u hu=>hl u (by simp[hu])) (by simp at hn;omega)
    refine⟨?_,h2⟩
    simp only[List.length_cons] at hn
    show (L++T).length≤_
    rw[bJ];omega
def kN (P:List Nd) (i:Nat):List Nat:=(nd P i).kids.map Int.toNat
theorem ad3 (P:List Nd) (s:dg):(ov P s).map (·.1)=kN P s.1:=by
  unfold ov g6 kN
  rw[List.map_map]
  apply List.ext_getElem?
  intro j
  rw[bN,bN]
  by_cases hj:j<(nd P s.1).kids.length
  · rw[List.getElem?_range hj,bI hj]
    simp only[ed,Function.comp]
    unfold lM
    dsimp only
    rw[ay,bI hj];rfl
  · rw[du (by simpa using hj),du (by omega)];rfl
theorem ad4 {P:List Nd} (hd:Down P) (i:Nat):∀ (f:Nat) (s:dg),s.1<P.length→P.length - s.1≤f →
    ((ky P f s).map (·.1)).count i=(if s.1=i then 1 else 0)+((ky P f s).flatMap fun v=>kN P v.1).count i:=by
  intro f
  induction f with
  | zero=>intro s hs hf;omega
  | succ f ih =>
    intro s hs hf
    rw[ky,cR,AE,pB,qb,← ad3]
    have key:∀ (K:List dg),(∀ t∈K,t.1<P.length∧P.length - t.1≤f)→((K.flatMap (ky P f)).map (·.1)).count i=(K.map (·.1)).count i+((K.flatMap (ky P f)).flatMap fun v=>kN P v.1).count i:=by
      intro K
      induction K with
      | nil=>intro _;rfl
      | cons t K ihK =>
        intro hK
        rw[pB,fB,qb,ih t (hK t (by simp)).1 (hK t (by simp)).2,ihK fun u hu=>hK u (by simp[hu]),cR,AE,List.flatMap_append,qb]
        by_cases e:t.1=i<;>simp[e]<;>omega
    have h1:=key (ov P s).reverse fun t ht=>by
      obtain ⟨o,ho,rfl⟩:=tp (sC.1 ht)
      obtain ⟨h1,h2,_⟩:=uP hd hs ho
      omega
    rw[h1,List.map_reverse,List.count_reverse]
    by_cases e:s.1=i<;>simp[e]<;>omega
theorem VQ {m:ah} {P:List Nd} (h:iK m P=true) {j:Nat} (h1:1≤j) (h2:j<P.length):(eG P).count (j:Int)=1:=by
  have hl:=tE h
  rw[Ex hl fun i hi=>CM h hi] at h
  rw[Bool.not_eq_true',List.any_eq_false] at h
  have hm:(iU P.length (eG P)).getD j 0∈(iU P.length (eG P)).drop 1:=by
    have dz:=xD P.length (eG P)
    rw[List.mem_iff_getElem]
    refine⟨j - 1,by rw[List.length_drop];omega,?_⟩
    rw[List.getElem_drop,ay,bI (by omega)]
    simp only[Option.getD_some]
    congr 1
    omega
  have:=h _ hm
  rw[Ew _ h2] at this
  simp only[bne_iff_ne,ne_eq,Decidable.not_not] at this
  omega
theorem ad6 {l:List Int} (h:∀ k∈l,0≤k) (j:Nat):(l.map Int.toNat).count j=l.count (j:Int):=by
  induction l with
  | nil=>rfl
  | cons k l ih =>
    have hk:=h k (by simp)
    rw[cR,AE,AE,ih fun x hx=>h x (by simp[hx])]
    have:(k.toNat == j)=(k == (j:Int)):=by rw[Bool.eq_iff_iff,beq_iff_eq,beq_iff_eq];omega
    rw[this]
theorem VR {m:ah} {P:List Nd} (h:iK m P=true) {j:Nat} (h1:1≤j) (h2:j<P.length) :
    ∃ p,p<j∧(kN P p).count j=1∧∀ q,q<P.length→q≠p→(kN P q).count j=0:=by
  have l7:=VQ h h1 h2
  have hd:=tq h
  have VS:∀ q,q<P.length→(kN P q).count j=(nd P q).kids.count (j:Int):=fun q hq=>ad6 (fun k hk=>by have:=hd q hq k hk;omega) j
  have key:∀ (L:List Nd),(L.flatMap (·.kids)).count (j:Int)=1→∃ p,p<L.length∧((L.getD p default).kids).count (j:Int)=1∧∀ q,q<L.length→q≠p→((L.getD q default).kids).count (j:Int)=0:=by
    intro L
    induction L with
    | nil=>intro h;simp at h
    | cons x L ih =>
      intro h
      rw[pB,qb] at h
      have hz:(L.flatMap (·.kids)).count (j:Int)=0→∀ q,q<L.length→((L.getD q default).kids).count (j:Int)=0:=fun h0 q hq=>by
        rw[K'] at h0 ⊢
        exact fun hh=>h0 (yD.2 ⟨_,az hq,hh⟩)
      by_cases hx:x.kids.count (j:Int)=0
      · obtain ⟨p,p1,p2,p3⟩:=ih (by omega)
        refine⟨p+1,by simpa using p1,by simpa using p2,fun q hq dL=>?_⟩
        cases q with
        | zero=>simpa using hx
        | succ q=>simpa using p3 q (by simpa using hq) (by omega)
      · refine⟨0,by simp,by simp;omega,fun q hq dL=>?_⟩
        cases q with
        | zero=>omega
        | succ q=>simpa using hz (by omega) q (by simpa using hq)
  obtain ⟨p,p1,p2,p3⟩:=key P l7
  have hpj:p<j:=by
    have cp:(j:Int)∈(nd P p).kids:=by
      have:0<((nd P p).kids).count (j:Int):=by show 0<((P.getD p default).kids).count _;omega
      exact List.count_pos_iff.1 this
    have:=hd p p1 _ cp
    omega
  exact⟨p,hpj,(VS p p1).trans p2,fun q hq dL=>(VS q hq).trans (p3 q hq dL)⟩
theorem FF {P:List Nd} (hd:Down P):∀ (f:Nat) (s:dg),s.1<P.length→∀ v∈ky P f s,v.1<P.length:=by
  intro f
  induction f with
  | zero=>intro s _ v hv;simp[ky] at hv
  | succ f ih =>
    intro s hs v hv
    rw[ky,bZ] at hv
    rcases hv with rfl | hv
    · exact hs
    · obtain ⟨t,ht,hv⟩:=yD.1 hv
      obtain ⟨o,ho,rfl⟩:=tp (sC.1 ht)
      exact ih _ (uP hd hs ho).2.1 v hv
theorem VT {P:List Nd} {j p:Nat} (h1:(kN P p).count j=1) (h2:∀ q,q<P.length→q≠p→(kN P q).count j=0):∀ (L:List dg),(∀ v∈L,v.1<P.length)→(L.flatMap fun v=>kN P v.1).count j=(L.map (·.1)).count p
  | [],_=>rfl
  | v::L,h=>by
    rw[pB,qb,cR,AE,VT h1 h2 L fun u hu=>h u (by simp[hu])]
    by_cases e:v.1=p
    · rw[e,h1];simp;omega
    · rw[h2 v.1 (h v (by simp)) e];simp[e]
theorem VU {m:ah} {P:List Nd} (h:iK m P=true) {s:dg} (hs:s.1=0):∀ (j:Nat),j<P.length→((vs P s).map (·.1)).count j=1:=by
  have hd:=tq h
  have hl:=tE h
  have hc:∀ j,((vs P s).map (·.1)).count j=(if s.1=j then 1 else 0)+((vs P s).flatMap fun v=>kN P v.1).count j:=fun j=>ad4 hd j _ s (by omega) (Nat.le_refl _)
  have hr:=FF hd (P.length - s.1) s (by omega)
  intro j
  induction j using C6 with
  | _ j ih =>
    intro hj
    rcases Nat.eq_zero_or_pos j with h0 | h0
    · subst h0
      rw[hc 0,if_pos hs]
      have:((vs P s).flatMap fun v=>kN P v.1).count 0=0:=by
        rw[K']
        intro hh
        obtain ⟨v,hv,hk⟩:=yD.1 hh
        unfold kN at hk
        obtain ⟨k,hk,e⟩:=b7.1 hk
        have:=hd v.1 (hr v hv) k hk
        omega
      omega
    · obtain ⟨p,p1,p2,p3⟩:=VR h h0 hj
      rw[hc j,if_neg (by omega),VT p2 p3 (vs P s) hr,ih p p1 (by omega)]
end T

