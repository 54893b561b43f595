import Derived.Test.YtkmfgcbdnijgeaaGreatX42
import Derived.Test.YtkmfgcbdnijgeaaGreatX30
import Derived.Test.YtkmfgcbdnijgeaaGreatX16
import Derived.Test.YtkmfgcbdnijgeaaGreatX29
import Derived.Test.YtkmfgcbdnijgeaaGreatX20
import Derived.Test.YtkmfgcbdnijgeaaGreatX08
import Derived.Test.YtkmfgcbdnijgeaaGreatX33
set_option linter.unusedVariables false
set_option linter.unusedSimpArgs false
set_option linter.unnecessarySimpa false
set_option linter.unusedSectionVars false
set_option maxHeartbeats 64000000
set_option maxRecDepth 20000
open Go Go.Am
open Go Go.Am Go.Proofs
open Nat (reduceEqDiff reduceAdd reduceLeDiff reduceMul)
open Int (reduceNeg reduceLE reduceToNat)
namespace T
mutual
inductive Seg (m:Mdl) (P:List Nd) (Q:List Int→Prop):Nat→Nat→List Int→Prop
  | leaf (lo:Nat) (ab:List Int) (l:List Mv) (h:nd P lo=leafN l) (hl:l.length≤2000) (hv:∀ x∈l,mvB m x=true) (ha:(-1:Int) ∉ ab) (hq:Q ab):Seg m P Q lo (lo+1) ab
  | node (lo hi:Nat) (ab:List Int) (c:Nat) (ks:List Int) (h:nd P lo=⟨c,ks,[],[],[]⟩) (hc:c<m.cls.length) (ha:(c:Int) ∉ ab) (hk:ks.length=(m.cls.getD c default).length) (hs:Segs m P Q (lo+1) hi (ab++[(c:Int)]) ks):Seg m P Q lo hi ab
inductive Segs (m:Mdl) (P:List Nd) (Q:List Int→Prop):Nat→Nat→List Int→List Int→Prop
  | nil (lo:Nat) (ab:List Int):Segs m P Q lo lo ab []
  | cons (lo mid hi:Nat) (ab:List Int) (ks:List Int) (h:Seg m P Q lo mid ab) (hs:Segs m P Q mid hi ab ks):Segs m P Q lo hi ab ((lo:Int)::ks)
end
theorem Segs.snoc {m:Mdl} {P:List Nd} {Q:List Int→Prop} {mid hi:Nat} {ab:List Int} (h2:Seg m P Q mid hi ab):∀ {ks:List Int} {lo:Nat},Segs m P Q lo mid ab ks→Segs m P Q lo hi ab (ks++[(mid:Int)])
  | [],lo,h=>by
    cases h
    exact .cons _ _ _ _ _ h2 (.nil _ _)
  | k::ks,lo,h=>by
    cases h with
    | cons _ mid' _ _ _ h1 hs=>exact .cons _ _ _ _ _ h1 (Segs.snoc h2 hs)
mutual
theorem Seg.lt {m:Mdl} {P:List Nd} {Q:List Int→Prop} {lo hi:Nat} {ab:List Int}:Seg m P Q lo hi ab→lo<hi
  | .leaf _ _ _ _ _ _ _ _=>Nat.lt_succ_self _
  | .node _ _ _ _ _ _ _ _ _ hs=>by have:=hs.le;omega
theorem Segs.le {m:Mdl} {P:List Nd} {Q:List Int→Prop} {lo hi:Nat} {ab ks:List Int}:Segs m P Q lo hi ab ks→lo≤hi
  | .nil _ _=>Nat.le_refl _
  | .cons _ _ _ _ _ h hs=>by have:=h.lt;have:=hs.le;omega
end
mutual
theorem Seg.frame {m:Mdl} {P P':List Nd} {Q:List Int→Prop} {lo hi:Nat} {ab:List Int}:Seg m P Q lo hi ab→(∀ i,lo≤i→i<hi→nd P' i=nd P i)→Seg m P' Q lo hi ab
  | .leaf _ _ l h hl hv ha hq,hf=>.leaf _ _ l ((hf _ (Nat.le_refl _) (Nat.lt_succ_self _)).trans h) hl hv ha hq
  | .node _ _ _ c ks h hc ha hk hs,hf=>.node _ _ _ c ks ((hf _ (Nat.le_refl _) (by have:=hs.le;omega)).trans h) hc ha hk (hs.frame fun i h1 h2=>hf i (by omega) h2)
theorem Segs.frame {m:Mdl} {P P':List Nd} {Q:List Int→Prop} {lo hi:Nat} {ab ks:List Int}:Segs m P Q lo hi ab ks→(∀ i,lo≤i→i<hi→nd P' i=nd P i)→Segs m P' Q lo hi ab ks
  | .nil _ _,_=>.nil _ _
  | .cons _ mid _ _ _ h hs,hf=>.cons _ _ _ _ _ (h.frame fun i h1 h2=>hf i h1 (by have:=hs.le;omega)) (hs.frame fun i h1 h2=>hf i (by have:=h.lt;omega) h2)
end
def segK (P:List Nd) (lo hi:Nat):List Int:=(List.range' lo (hi - lo)).flatMap fun i=>(nd P i).kids
theorem segK_split (P:List Nd) {lo mid hi:Nat} (h1:lo≤mid) (h2:mid≤hi):segK P lo hi=segK P lo mid++segK P mid hi:=by
  unfold segK
  rw[← List.flatMap_append]
  congr 1
  have:=List.range'_append (s:=lo) (m:=mid - lo) (n:=hi - mid) (step:=1)
  simp only[Nat.one_mul] at this
  rw[show lo+(mid - lo)=mid by omega,show mid - lo+(hi - mid)=hi - lo by omega] at this
  exact this.symm
theorem segK_one (P:List Nd) (lo:Nat):segK P lo (lo+1)=(nd P lo).kids:=by
  unfold segK
  rw[show lo+1 - lo=1 by omega]
  simp
theorem segK_nil (P:List Nd) (lo:Nat):segK P lo lo=[]:=by unfold segK;rw[Nat.sub_self];rfl
mutual
theorem Seg.count {m:Mdl} {P:List Nd} {Q:List Int→Prop} {lo hi:Nat} {ab:List Int}:Seg m P Q lo hi ab→∀ j:Nat,(segK P lo hi).count (j:Int)=if lo<j∧j<hi then 1 else 0
  | .leaf lo _ l h _ _ _ _,j=>by
    rw[segK_one,h,if_neg (by omega)];rfl
  | .node lo hi _ c ks h _ _ _ hs,j=>by
    have hle:=hs.le
    rw[segK_split P (Nat.le_succ lo) hle,segK_one,h,List.count_append]
    have:=hs.count j
    dsimp only
    rw[this]
    by_cases h1:lo<j∧j<hi
    · rw[if_pos (by omega),if_pos h1]
    · rw[if_neg (by omega),if_neg h1]
theorem Segs.count {m:Mdl} {P:List Nd} {Q:List Int→Prop} {lo hi:Nat} {ab ks:List Int}:Segs m P Q lo hi ab ks→∀ j:Nat,ks.count (j:Int)+(segK P lo hi).count (j:Int)=if lo≤j∧j<hi then 1 else 0
  | .nil lo _,j=>by rw[segK_nil,if_neg (by omega)];rfl
  | .cons lo mid hi _ ks h hs,j=>by
    have hlt:=h.lt
    have hle:=hs.le
    rw[segK_split P (Nat.le_of_lt hlt) hle,List.count_append,List.count_cons]
    have h1:=h.count j
    have h2:=hs.count j
    have hb:((lo:Int) == (j:Int))=decide (lo=j):=by rw[Bool.eq_iff_iff,beq_iff_eq,decide_eq_true_eq];omega
    rw[h1,hb]
    by_cases e:lo=j
    · subst e
      rw[if_neg (by omega)] at h2
      simp only[decide_true,if_true]
      rw[if_neg (by omega),if_pos (by omega)]
      omega
    · simp only[decide_eq_false e,Bool.false_eq_true,if_false]
      by_cases h3:lo<j∧j<mid
      · rw[if_pos h3,if_pos (by omega)]
        rw[if_neg (by omega)] at h2
        omega
      · rw[if_neg h3]
        by_cases h4:mid≤j∧j<hi
        · rw[if_pos h4] at h2
          rw[if_pos (by omega)];omega
        · rw[if_neg h4] at h2
          rw[if_neg (by omega)];omega
end
mutual
theorem Seg.node_ok {m:Mdl} {P:List Nd} {Q:List Int→Prop} {lo hi:Nat} {ab:List Int}:Seg m P Q lo hi ab→∀ i,lo≤i→i<hi→ndB m (nd P i)=true∧∀ k∈(nd P i).kids,(i:Int)<k∧k<hi
  | .leaf lo _ l h _ _ _ _,i,h1,h2=>by
    obtain rfl:i=lo:=by omega
    rw[h]
    exact⟨rfl,fun k hk=>by cases hk⟩
  | .node lo hi _ c ks h hc _ hk hs,i,h1,h2=>by
    by_cases e:i=lo
    · subst e
      rw[h]
      refine⟨?_,fun k hkk=>?_⟩
      · unfold ndB
        rw[if_neg (by show ¬((c:Int) = -1);omega),decide_eq_true_eq]
        exact⟨by show (0:Int)≤c;omega,by show (c:Int)<_;omega,by show ks.length=_;rw[Int.toNat_natCast];exact hk,rfl,rfl,rfl⟩
      · have:=hs.kids_in k hkk
        omega
    · exact hs.node_ok i (by omega) h2
theorem Segs.node_ok {m:Mdl} {P:List Nd} {Q:List Int→Prop} {lo hi:Nat} {ab ks:List Int}:Segs m P Q lo hi ab ks→∀ i,lo≤i→i<hi→ndB m (nd P i)=true∧∀ k∈(nd P i).kids,(i:Int)<k∧k<hi
  | .nil lo _,i,h1,h2=>by omega
  | .cons lo mid hi _ ks h hs,i,h1,h2=>by
    have hle:=hs.le
    by_cases e:i<mid
    · obtain ⟨a,b⟩:=h.node_ok i h1 e
      exact⟨a,fun k hk=>by have:=b k hk;omega⟩
    · exact hs.node_ok i (by omega) h2
theorem Segs.kids_in {m:Mdl} {P:List Nd} {Q:List Int→Prop} {lo hi:Nat} {ab ks:List Int}:Segs m P Q lo hi ab ks→∀ k∈ks,(lo:Int)≤k∧k<hi
  | .nil lo _,k,hk=>by cases hk
  | .cons lo mid hi _ ks h hs,k,hk=>by
    have hlt:=h.lt
    have hle:=hs.le
    rcases List.mem_cons.1 hk with rfl | hk
    · omega
    · have:=hs.kids_in k hk;omega
end
mutual
theorem Seg.flat {m:Mdl} {P:List Nd} {Q:List Int→Prop} {lo hi:Nat} {ab:List Int}:Seg m P Q lo hi ab→∀ i,lo≤i→i<hi→(nd P i).mvs.length≤2000∧(nd P i).grp=[]∧(nd P i).cells=[]
  | .leaf lo _ l h hl _ _ _,i,h1,h2=>by
    obtain rfl:i=lo:=by omega
    rw[h]
    exact⟨hl,rfl,rfl⟩
  | .node lo hi _ c ks h hc _ hk hs,i,h1,h2=>by
    by_cases e:i=lo
    · subst e
      rw[h]
      exact⟨Nat.zero_le _,rfl,rfl⟩
    · exact hs.flat i (by omega) h2
theorem Segs.flat {m:Mdl} {P:List Nd} {Q:List Int→Prop} {lo hi:Nat} {ab ks:List Int}:Segs m P Q lo hi ab ks→∀ i,lo≤i→i<hi→(nd P i).mvs.length≤2000∧(nd P i).grp=[]∧(nd P i).cells=[]
  | .nil lo _,i,h1,h2=>by omega
  | .cons lo mid hi _ ks h hs,i,h1,h2=>by
    have hle:=hs.le
    by_cases e:i<mid
    · exact h.flat i h1 e
    · exact hs.flat i (by omega) h2
end
theorem segK_all (P:List Nd):segK P 0 P.length=allK P:=by
  unfold segK allK
  rw[Nat.sub_zero,← List.range_eq_range']
  have:∀ n,n≤P.length→(List.range n).flatMap (fun i=>(nd P i).kids)=(P.take n).flatMap (·.kids):=by
    intro n
    induction n with
    | zero=>intro _;rfl
    | succ n ih =>
      intro hn
      rw[List.range_succ,List.flatMap_append,ih (by omega),take_snoc (by omega),List.flatMap_append,List.flatMap_singleton,List.flatMap_singleton];rfl
  rw[this P.length (Nat.le_refl _),List.take_length]
theorem Seg.shaped {m:Mdl} {P:List Nd} {Q:List Int→Prop} (h:Seg m P Q 0 P.length []) (hn:P.length≤20000):shapedB m P=true:=by
  have hlt:=h.lt
  rw[shaped_end ⟨hlt,hn⟩ (fun i hi=>by
    obtain ⟨a,b⟩:=h.node_ok i (Nat.zero_le _) hi
    show nodeB m P.length i (nd P i)=true
    unfold nodeB
    rw[a,Bool.true_and,List.all_eq_true]
    intro k hk
    have:=b k hk
    unfold kidB
    rw[decide_eq_true_eq];exact this)]
  rw[Bool.not_eq_true',List.any_eq_false]
  intro x hx
  unfold parV at hx
  rw[← List.map_drop] at hx
  obtain ⟨j,hj,rfl⟩:=List.mem_map.1 hx
  have hj2:1≤j∧j<P.length:=by
    obtain ⟨i,hi,rfl⟩:=List.getElem_of_mem hj
    rw[List.length_drop,List.length_range] at hi
    rw[List.getElem_drop,List.getElem_range];omega
  have hc:=h.count j
  rw[segK_all,if_pos (by omega)] at hc
  rw[hc];decide
theorem leaf_right {m:Mdl} {left:List (List Bool)} {l:List Mv} (hl:l.length≤2000) (hv:∀ x∈l,mvB m x=true):leafT m left l=(valV m left (mvsL m l (S0 m,T0 m)),0):=by
  unfold leafT
  rw[if_neg (by omega),if_neg (by rw[List.all_eq_true.2 hv];simp)]
mutual
theorem Seg.visits {m:Mdl} {P:List Nd} {Q:List Int→Prop} (hd:Down P) {lo hi:Nat} {ab:List Int}:Seg m P Q lo hi ab→hi≤P.length→∀ left,∀ t∈vs P (lo,left,ab),t.2.2.contains (nd P t.1).cls=false∧((nd P t.1).cls = -1→(nd P t.1).grp.length=0∧(leafT m t.2.1 (nd P t.1).mvs).2=0)
  | .leaf lo ab l h hl hv ha _,hh,left,t,ht=>by
    rw[vs_leaf hd (by show lo<_;omega) (by show (nd P lo).kids=[];rw[h];rfl),List.mem_singleton] at ht
    subst ht
    dsimp only
    rw[h]
    refine⟨?_,fun _=>⟨rfl,by show (leafT m left l).2=0;rw[leaf_right hl hv]⟩⟩
    show ab.contains (-1)=false
    rw[Bool.eq_false_iff]
    intro hc
    exact ha (List.contains_iff_mem.1 hc)
  | .node lo hi ab c ks h hc ha hk hs,hh,left,t,ht=>by
    have hle:=hs.le
    rw[vs_step hd (by show lo<_;omega),List.mem_cons] at ht
    rcases ht with rfl | ht
    · dsimp only
      rw[h]
      refine⟨?_,fun h2=>absurd (show (c:Int) = -1 from h2) (by omega)⟩
      rw[Bool.eq_false_iff]
      intro hc
      exact ha (List.contains_iff_mem.1 hc)
    · obtain ⟨u,hu,ht⟩:=List.mem_flatMap.1 ht
      obtain ⟨o,ho,rfl⟩:=kid_mem (List.mem_reverse.1 hu)
      dsimp only at ho
      have hks:kidS P (lo,left,ab) o=((ks.getD o 0).toNat,onlyV left c o,ab++[(c:Int)]):=by
        unfold kidS
        dsimp only
        rw[h];rfl
      rw[hks] at ht
      rw[h] at ho
      exact hs.visits hd hh o ho _ t ht
theorem Segs.visits {m:Mdl} {P:List Nd} {Q:List Int→Prop} (hd:Down P) {lo hi:Nat} {ab ks:List Int}:Segs m P Q lo hi ab ks→hi≤P.length→∀ o,o<ks.length→∀ left,∀ t∈vs P ((ks.getD o 0).toNat,left,ab),t.2.2.contains (nd P t.1).cls=false∧((nd P t.1).cls = -1→(nd P t.1).grp.length=0∧(leafT m t.2.1 (nd P t.1).mvs).2=0)
  | .nil _ _,_,o,ho,_,_,_=>by cases ho
  | .cons lo mid hi ab ks h hs,hh,o,ho,left,t,ht=>by
    have hle:=hs.le
    cases o with
    | zero =>
      rw[List.getD_cons_zero,Int.toNat_natCast] at ht
      exact h.visits hd (by omega) left t ht
    | succ o =>
      rw[List.getD_cons_succ] at ht
      exact hs.visits hd hh o (by simpa using ho) left t ht
end
mutual
theorem Seg.leaves {m:Mdl} {P:List Nd} {Q:List Int→Prop} (hd:Down P) {lo hi:Nat} {ab:List Int}:Seg m P Q lo hi ab→hi≤P.length→∀ left,∀ t∈vs P (lo,left,ab),(nd P t.1).cls = -1→Q t.2.2
  | .leaf lo ab l h hl hv ha hq,hh,left,t,ht,_=>by
    rw[vs_leaf hd (by show lo<_;omega) (by show (nd P lo).kids=[];rw[h];rfl),List.mem_singleton] at ht
    subst ht
    exact hq
  | .node lo hi ab c ks h hc ha hk hs,hh,left,t,ht,hcl=>by
    have hle:=hs.le
    rw[vs_step hd (by show lo<_;omega),List.mem_cons] at ht
    rcases ht with rfl | ht
    · dsimp only at hcl
      rw[h] at hcl
      exact absurd (show (c:Int) = -1 from hcl) (by omega)
    · obtain ⟨u,hu,ht⟩:=List.mem_flatMap.1 ht
      obtain ⟨o,ho,rfl⟩:=kid_mem (List.mem_reverse.1 hu)
      dsimp only at ho
      have hks:kidS P (lo,left,ab) o=((ks.getD o 0).toNat,onlyV left c o,ab++[(c:Int)]):=by
        unfold kidS
        dsimp only
        rw[h];rfl
      rw[hks] at ht
      rw[h] at ho
      exact hs.leaves hd hh o ho _ t ht hcl
theorem Segs.leaves {m:Mdl} {P:List Nd} {Q:List Int→Prop} (hd:Down P) {lo hi:Nat} {ab ks:List Int}:Segs m P Q lo hi ab ks→hi≤P.length→∀ o,o<ks.length→∀ left,∀ t∈vs P ((ks.getD o 0).toNat,left,ab),(nd P t.1).cls = -1→Q t.2.2
  | .nil _ _,_,o,ho,_,_,_,_=>by cases ho
  | .cons lo mid hi ab ks h hs,hh,o,ho,left,t,ht,hcl=>by
    have hle:=hs.le
    cases o with
    | zero =>
      rw[List.getD_cons_zero,Int.toNat_natCast] at ht
      exact h.leaves hd (by omega) left t ht hcl
    | succ o =>
      rw[List.getD_cons_succ] at ht
      exact hs.leaves hd hh o (by simpa using ho) left t ht hcl
end
theorem Seg.chk {m:Mdl} {P:List Nd} {Q:List Int→Prop} (hm:VM m) (h:Seg m P Q 0 P.length []) (hn:P.length≤20000) :∃n,chkV m P=(n,true)∧∀ a,a≤1099511627776→(∀ s∈vs P (root m),(nd P s.1).cls = -1→a≤(leafT m s.2.1 (nd P s.1).mvs).1)→a≤n:=by
  have hs:=h.shaped hn
  exact chk_of hm hs fun s hs2=>h.visits (shaped_down hs) (Nat.le_refl _) (allT m) s hs2
def o0:Opt:=⟨0,0,0,0,0,[]⟩
def m1:Mdl:=⟨[[o0,o0],[o0,o0]],[⟨0,1,0,[0,2,4,3]⟩],[],1⟩
def szB (w:Nat):Nat→Nat
  | 0=>1
  | s+1=>1+w * szB w s
structure GrowOK (m:Mdl) (L:List Int) (w:Nat) (s:Nat) (ab:List Int) (nodes:List Nd) (r:List Nd × Nat):Prop where
  k:r.2≤L.length
  lt:nodes.length<r.1.length
  le:r.1.length≤nodes.length+szB w s
  pre:∀ i,i<nodes.length→nd r.1 i=nd nodes i
  seg:Seg m r.1 (fun _=>True) nodes.length r.1.length ab
theorem nd_app {P:List Nd} {x:Nd} {i:Nat} (h:i<P.length):nd (P++[x]) i=nd P i:=by
  unfold nd
  rw[List.getD_eq_getElem?_getD,List.getElem?_append_left h,List.getD_eq_getElem?_getD]
theorem nd_last {P:List Nd} {x:Nd}:nd (P++[x]) P.length=x:=by
  unfold nd
  rw[List.getD_eq_getElem?_getD,List.getElem?_append_right (Nat.le_refl _)];simp
theorem nd_set {P:List Nd} {x:Nd} {i j:Nat} (h:j<P.length):nd (P.set j x) i=if i=j then x else nd P i:=by
  unfold nd
  rw[List.getD_eq_getElem?_getD,List.getElem?_set]
  by_cases e:j=i
  · subst e;rw[if_pos rfl,if_pos h,if_pos rfl];rfl
  · rw[if_neg e,if_neg (Ne.symm e),List.getD_eq_getElem?_getD]
def upto (n:Nat):List Int:=(List.range n).map fun (j:Nat)=>(j:Int)
structure FullOK (m:Mdl) (w d:Nat) (nodes r:List Nd):Prop where
  lt:nodes.length<r.length
  le:r.length≤nodes.length+szB w d
  pre:∀ i,i<nodes.length→nd r i=nd nodes i
  seg:Seg m r (fun ab=>ab=upto m.cls.length) nodes.length r.length (upto (m.cls.length - d))
theorem onlyR_get {w o:Nat} (h:o<w) (j:Nat):(onlyR w o).getD j false=decide (j=o):=by
  unfold onlyR
  rw[List.getD_eq_getElem?_getD,List.getElem?_set,List.length_replicate]
  by_cases e:o=j
  · subst e;rw[if_pos rfl,if_pos h,decide_eq_true rfl];rfl
  · rw[if_neg e,List.getElem?_replicate,decide_eq_false (Ne.symm e)]
    split<;>rfl
theorem bb_fits2 {m:Mdl} {x:List (List Bool)} (hm:VM m) (h:FitsP m x):BB x:=by
  have hc:=hm.cls
  refine⟨by have:=h.1;omega,fun r hr=>?_⟩
  obtain ⟨i,hi,rfl⟩:=List.getElem_of_mem hr
  have h2:=h.2 i hi
  have h3:=hm.opt _ (getD_mem (l:=m.cls) (i:=i) (d:=default) (by have:=h.1;omega))
  rw[List.getD_eq_getElem?_getD,List.getElem?_eq_getElem hi,Option.getD_some] at h2
  omega
end T

