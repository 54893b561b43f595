import Derived.Test.YtkmfgcbdnijgeaaGreatX16
import Derived.Test.YtkmfgcbdnijgeaaGreatX29
set_option linter.unusedVariables false
set_option linter.unusedSimpArgs false
set_option linter.unnecessarySimpa false
set_option linter.unusedSectionVars false
set_option maxHeartbeats 64000000
set_option maxRecDepth 20000
open Go Go.Am Go.Proofs
open Nat (reduceEqDiff reduceAdd reduceLeDiff reduceMul)
open Int (reduceNeg reduceLE reduceToNat)
open Go Go.Am
namespace T
def kN (P:List Nd) (i:Nat):List Nat:=(nd P i).kids.map Int.toNat
theorem kids_nodes (P:List Nd) (s:St3):(kidsF P s).map (·.1)=kN P s.1:=by
  unfold kidsF kidsT kN
  rw[List.map_map]
  apply List.ext_getElem?
  intro j
  rw[List.getElem?_map,List.getElem?_map]
  by_cases hj:j<(nd P s.1).kids.length
  · rw[List.getElem?_range hj,List.getElem?_eq_getElem hj]
    simp only[Option.map_some,Function.comp]
    unfold kidS
    dsimp only
    rw[List.getD_eq_getElem?_getD,List.getElem?_eq_getElem hj];rfl
  · rw[List.getElem?_eq_none (by simpa using hj),List.getElem?_eq_none (by omega)];rfl
theorem vis_count {P:List Nd} (hd:Down P) (i:Nat):∀ (f:Nat) (s:St3),s.1<P.length→P.length - s.1≤f →
    ((vis P f s).map (·.1)).count i=(if s.1=i then 1 else 0)+((vis P f s).flatMap fun v=>kN P v.1).count i:=by
  intro f
  induction f with
  | zero=>intro s hs hf;omega
  | succ f ih =>
    intro s hs hf
    rw[vis,List.map_cons,List.count_cons,List.flatMap_cons,List.count_append,← kids_nodes]
    have key:∀ (K:List St3),(∀ t∈K,t.1<P.length∧P.length - t.1≤f)→((K.flatMap (vis P f)).map (·.1)).count i=(K.map (·.1)).count i+((K.flatMap (vis P f)).flatMap fun v=>kN P v.1).count i:=by
      intro K
      induction K with
      | nil=>intro _;rfl
      | cons t K ihK =>
        intro hK
        rw[List.flatMap_cons,List.map_append,List.count_append,ih t (hK t (by simp)).1 (hK t (by simp)).2,ihK fun u hu=>hK u (by simp[hu]),List.map_cons,List.count_cons,List.flatMap_append,List.count_append]
        by_cases e:t.1=i<;>simp[e]<;>omega
    have h1:=key (kidsF P s).reverse fun t ht=>by
      obtain ⟨o,ho,rfl⟩:=kid_mem (List.mem_reverse.1 ht)
      obtain ⟨h1,h2,_⟩:=kid_in hd hs ho
      omega
    rw[h1,List.map_reverse,List.count_reverse]
    by_cases e:s.1=i<;>simp[e]<;>omega
theorem shaped_one {m:Mdl} {P:List Nd} (h:shapedB m P=true) {j:Nat} (h1:1≤j) (h2:j<P.length):(allK P).count (j:Int)=1:=by
  have hl:=shaped_len h
  rw[shaped_end hl fun i hi=>shaped_node h hi] at h
  rw[Bool.not_eq_true',List.any_eq_false] at h
  have hm:(parV P.length (allK P)).getD j 0∈(parV P.length (allK P)).drop 1:=by
    have hpl:=parV_len P.length (allK P)
    rw[List.mem_iff_getElem]
    refine⟨j - 1,by rw[List.length_drop];omega,?_⟩
    rw[List.getElem_drop,List.getD_eq_getElem?_getD,List.getElem?_eq_getElem (by omega)]
    simp only[Option.getD_some]
    congr 1
    omega
  have:=h _ hm
  rw[parV_get _ h2] at this
  simp only[bne_iff_ne,ne_eq,Decidable.not_not] at this
  omega
theorem count_toNat {l:List Int} (h:∀ k∈l,0≤k) (j:Nat):(l.map Int.toNat).count j=l.count (j:Int):=by
  induction l with
  | nil=>rfl
  | cons k l ih =>
    have hk:=h k (by simp)
    rw[List.map_cons,List.count_cons,List.count_cons,ih fun x hx=>h x (by simp[hx])]
    have:(k.toNat == j)=(k == (j:Int)):=by rw[Bool.eq_iff_iff,beq_iff_eq,beq_iff_eq];omega
    rw[this]
theorem shaped_par {m:Mdl} {P:List Nd} (h:shapedB m P=true) {j:Nat} (h1:1≤j) (h2:j<P.length) :
    ∃ p,p<j∧(kN P p).count j=1∧∀ q,q<P.length→q≠p→(kN P q).count j=0:=by
  have hone:=shaped_one h h1 h2
  have hd:=shaped_down h
  have hkn:∀ q,q<P.length→(kN P q).count j=(nd P q).kids.count (j:Int):=fun q hq=>count_toNat (fun k hk=>by have:=hd q hq k hk;omega) j
  have key:∀ (L:List Nd),(L.flatMap (·.kids)).count (j:Int)=1→∃ p,p<L.length∧((L.getD p default).kids).count (j:Int)=1∧∀ q,q<L.length→q≠p→((L.getD q default).kids).count (j:Int)=0:=by
    intro L
    induction L with
    | nil=>intro h;simp at h
    | cons x L ih =>
      intro h
      rw[List.flatMap_cons,List.count_append] at h
      have hz:(L.flatMap (·.kids)).count (j:Int)=0→∀ q,q<L.length→((L.getD q default).kids).count (j:Int)=0:=fun h0 q hq=>by
        rw[List.count_eq_zero] at h0 ⊢
        exact fun hh=>h0 (List.mem_flatMap.2 ⟨_,getD_mem hq,hh⟩)
      by_cases hx:x.kids.count (j:Int)=0
      · obtain ⟨p,p1,p2,p3⟩:=ih (by omega)
        refine⟨p+1,by simpa using p1,by simpa using p2,fun q hq hne=>?_⟩
        cases q with
        | zero=>simpa using hx
        | succ q=>simpa using p3 q (by simpa using hq) (by omega)
      · refine⟨0,by simp,by simp;omega,fun q hq hne=>?_⟩
        cases q with
        | zero=>omega
        | succ q=>simpa using hz (by omega) q (by simpa using hq)
  obtain ⟨p,p1,p2,p3⟩:=key P hone
  have hpj:p<j:=by
    have hmem:(j:Int)∈(nd P p).kids:=by
      have:0<((nd P p).kids).count (j:Int):=by show 0<((P.getD p default).kids).count _;omega
      exact List.count_pos_iff.1 this
    have:=hd p p1 _ hmem
    omega
  exact⟨p,hpj,(hkn p p1).trans p2,fun q hq hne=>(hkn q hq).trans (p3 q hq hne)⟩
theorem vis_range {P:List Nd} (hd:Down P):∀ (f:Nat) (s:St3),s.1<P.length→∀ v∈vis P f s,v.1<P.length:=by
  intro f
  induction f with
  | zero=>intro s _ v hv;simp[vis] at hv
  | succ f ih =>
    intro s hs v hv
    rw[vis,List.mem_cons] at hv
    rcases hv with rfl | hv
    · exact hs
    · obtain ⟨t,ht,hv⟩:=List.mem_flatMap.1 hv
      obtain ⟨o,ho,rfl⟩:=kid_mem (List.mem_reverse.1 ht)
      exact ih _ (kid_in hd hs ho).2.1 v hv
theorem flat_count {P:List Nd} {j p:Nat} (h1:(kN P p).count j=1) (h2:∀ q,q<P.length→q≠p→(kN P q).count j=0):∀ (L:List St3),(∀ v∈L,v.1<P.length)→(L.flatMap fun v=>kN P v.1).count j=(L.map (·.1)).count p
  | [],_=>rfl
  | v::L,h=>by
    rw[List.flatMap_cons,List.count_append,List.map_cons,List.count_cons,flat_count h1 h2 L fun u hu=>h u (by simp[hu])]
    by_cases e:v.1=p
    · rw[e,h1];simp;omega
    · rw[h2 v.1 (h v (by simp)) e];simp[e]
theorem vs_once {m:Mdl} {P:List Nd} (h:shapedB m P=true) {s:St3} (hs:s.1=0):∀ (j:Nat),j<P.length→((vs P s).map (·.1)).count j=1:=by
  have hd:=shaped_down h
  have hl:=shaped_len h
  have hc:∀ j,((vs P s).map (·.1)).count j=(if s.1=j then 1 else 0)+((vs P s).flatMap fun v=>kN P v.1).count j:=fun j=>vis_count hd j _ s (by omega) (Nat.le_refl _)
  have hr:=vis_range hd (P.length - s.1) s (by omega)
  intro j
  induction j using Nat.strongRecOn with
  | _ j ih =>
    intro hj
    rcases Nat.eq_zero_or_pos j with h0 | h0
    · subst h0
      rw[hc 0,if_pos hs]
      have:((vs P s).flatMap fun v=>kN P v.1).count 0=0:=by
        rw[List.count_eq_zero]
        intro hh
        obtain ⟨v,hv,hk⟩:=List.mem_flatMap.1 hh
        unfold kN at hk
        obtain ⟨k,hk,e⟩:=List.mem_map.1 hk
        have:=hd v.1 (hr v hv) k hk
        omega
      omega
    · obtain ⟨p,p1,p2,p3⟩:=shaped_par h h0 hj
      rw[hc j,if_neg (by omega),flat_count p2 p3 (vs P s) hr,ih p p1 (by omega)]
end T

