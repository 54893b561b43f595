import Derived.Test.YtkmfgcbdnijgeaaGreatX37
import Derived.Test.YtkmfgcbdnijgeaaGreatX28
import Derived.Test.YtkmfgcbdnijgeaaGreatX15
import Derived.Test.YtkmfgcbdnijgeaaGreatX30
set_option linter.unusedVariables false
set_option linter.unusedSimpArgs false
set_option linter.unnecessarySimpa false
set_option linter.unusedSectionVars false
set_option maxHeartbeats 64000000
set_option maxRecDepth 20000
open Go Go.Am
open Go Go.Am Go.Proofs
open Nat (reduceEqDiff reduceAdd reduceLeDiff reduceMul)
open Int (reduceNeg reduceLE reduceToNat)
namespace T
mutual
inductive Seg (m:Mdl) (P:List Nd) (Q:List Int→Prop):Nat→Nat→List Int→Prop
  | leaf (lo:Nat) (ab:List Int) (l:List Mv) (h:nd P lo=leafN l) (hl:l.length≤2000) (hv:∀ x∈l,mvB m x=true) (ha:(-1:Int) ∉ ab) (hq:Q ab):Seg m P Q lo (lo+1) ab
  | node (lo hi:Nat) (ab:List Int) (c:Nat) (ks:List Int) (h:nd P lo=⟨c,ks,[],[],[]⟩) (hc:c<m.cls.length) (ha:(c:Int) ∉ ab) (hk:ks.length=(m.cls.getD c default).length) (hs:Segs m P Q (lo+1) hi (ab++[(c:Int)]) ks):Seg m P Q lo hi ab
inductive Segs (m:Mdl) (P:List Nd) (Q:List Int→Prop):Nat→Nat→List Int→List Int→Prop
  | nil (lo:Nat) (ab:List Int):Segs m P Q lo lo ab []
  | cons (lo mid hi:Nat) (ab:List Int) (ks:List Int) (h:Seg m P Q lo mid ab) (hs:Segs m P Q mid hi ab ks):Segs m P Q lo hi ab ((lo:Int)::ks)
end
theorem Segs.snoc {m:Mdl} {P:List Nd} {Q:List Int→Prop} {mid hi:Nat} {ab:List Int} (h2:Seg m P Q mid hi ab):∀ {ks:List Int} {lo:Nat},Segs m P Q lo mid ab ks→Segs m P Q lo hi ab (ks++[(mid:Int)])
  | [],lo,h=>by
    cases h
    exact .cons _ _ _ _ _ h2 (.nil _ _)
  | k::ks,lo,h=>by
    cases h with
    | cons _ mid' _ _ _ h1 hs=>exact .cons _ _ _ _ _ h1 (Segs.snoc h2 hs)
mutual
theorem Seg.lt {m:Mdl} {P:List Nd} {Q:List Int→Prop} {lo hi:Nat} {ab:List Int}:Seg m P Q lo hi ab→lo<hi
  | .leaf _ _ _ _ _ _ _ _=>Nat.lt_succ_self _
  | .node _ _ _ _ _ _ _ _ _ hs=>by have:=hs.le;omega
theorem Segs.le {m:Mdl} {P:List Nd} {Q:List Int→Prop} {lo hi:Nat} {ab ks:List Int}:Segs m P Q lo hi ab ks→lo≤hi
  | .nil _ _=>Nat.le_refl _
  | .cons _ _ _ _ _ h hs=>by have:=h.lt;have:=hs.le;omega
end
mutual
theorem Seg.frame {m:Mdl} {P P':List Nd} {Q:List Int→Prop} {lo hi:Nat} {ab:List Int}:Seg m P Q lo hi ab→(∀ i,lo≤i→i<hi→nd P' i=nd P i)→Seg m P' Q lo hi ab
  | .leaf _ _ l h hl hv ha hq,hf=>.leaf _ _ l ((hf _ (Nat.le_refl _) (Nat.lt_succ_self _)).trans h) hl hv ha hq
  | .node _ _ _ c ks h hc ha hk hs,hf=>.node _ _ _ c ks ((hf _ (Nat.le_refl _) (by have:=hs.le;omega)).trans h) hc ha hk (hs.frame fun i h1 h2=>hf i (by omega) h2)
theorem Segs.frame {m:Mdl} {P P':List Nd} {Q:List Int→Prop} {lo hi:Nat} {ab ks:List Int}:Segs m P Q lo hi ab ks→(∀ i,lo≤i→i<hi→nd P' i=nd P i)→Segs m P' Q lo hi ab ks
  | .nil _ _,_=>.nil _ _
  | .cons _ mid _ _ _ h hs,hf=>.cons _ _ _ _ _ (h.frame fun i h1 h2=>hf i h1 (by have:=hs.le;omega)) (hs.frame fun i h1 h2=>hf i (by have:=h.lt;omega) h2)
end
def segK (P:List Nd) (lo hi:Nat):List Int:=(List.range' lo (hi - lo)).flatMap fun i=>(nd P i).kids
theorem segK_split (P:List Nd) {lo mid hi:Nat} (h1:lo≤mid) (h2:mid≤hi):segK P lo hi=segK P lo mid++segK P mid hi:=by
  unfold segK
  rw[← List.flatMap_append]
  congr 1
  have:=List.range'_append (s:=lo) (m:=mid - lo) (n:=hi - mid) (step:=1)
  simp only[Nat.one_mul] at this
  rw[show lo+(mid - lo)=mid by omega,show mid - lo+(hi - mid)=hi - lo by omega] at this
  exact this.symm
theorem segK_one (P:List Nd) (lo:Nat):segK P lo (lo+1)=(nd P lo).kids:=by
  unfold segK
  rw[show lo+1 - lo=1 by omega]
  simp
theorem segK_nil (P:List Nd) (lo:Nat):segK P lo lo=[]:=by unfold segK;rw[Nat.sub_self];rfl
mutual
theorem Seg.count {m:Mdl} {P:List Nd} {Q:List Int→Prop} {lo hi:Nat} {ab:List Int}:Seg m P Q lo hi ab→∀ j:Nat,(segK P lo hi).count (j:Int)=if lo<j∧j<hi then 1 else 0
  | .leaf lo _ l h _ _ _ _,j=>by
    rw[segK_one,h,if_neg (by omega)];rfl
  | .node lo hi _ c ks h _ _ _ hs,j=>by
    have hle:=hs.le
    rw[segK_split P (Nat.le_succ lo) hle,segK_one,h,List.count_append]
    have:=hs.count j
    dsimp only
    rw[this]
    by_cases h1:lo<j∧j<hi
    · rw[if_pos (by omega),if_pos h1]
    · rw[if_neg (by omega),if_neg h1]
theorem Segs.count {m:Mdl} {P:List Nd} {Q:List Int→Prop} {lo hi:Nat} {ab ks:List Int}:Segs m P Q lo hi ab ks→∀ j:Nat,ks.count (j:Int)+(segK P lo hi).count (j:Int)=if lo≤j∧j<hi then 1 else 0
  | .nil lo _,j=>by rw[segK_nil,if_neg (by omega)];rfl
  | .cons lo mid hi _ ks h hs,j=>by
    have hlt:=h.lt
    have hle:=hs.le
    rw[segK_split P (Nat.le_of_lt hlt) hle,List.count_append,List.count_cons]
    have h1:=h.count j
    have h2:=hs.count j
    have hb:((lo:Int) == (j:Int))=decide (lo=j):=by rw[Bool.eq_iff_iff,beq_iff_eq,decide_eq_true_eq];omega
    rw[h1,hb]
    by_cases e:lo=j
    · subst e
      rw[if_neg (by omega)] at h2
      simp only[decide_true,if_true]
      rw[if_neg (by omega),if_pos (by omega)]
      omega
    · simp only[decide_eq_false e,Bool.false_eq_true,if_false]
      by_cases h3:lo<j∧j<mid
      · rw[if_pos h3,if_pos (by omega)]
        rw[if_neg (by omega)] at h2
        omega
      · rw[if_neg h3]
        by_cases h4:mid≤j∧j<hi
        · rw[if_pos h4] at h2
          rw[if_pos (by omega)];omega
        · rw[if_neg h4] at h2
          rw[if_neg (by omega)];omega
end
mutual
theorem Seg.node_ok {m:Mdl} {P:List Nd} {Q:List Int→Prop} {lo hi:Nat} {ab:List Int}:Seg m P Q lo hi ab→∀ i,lo≤i→i<hi→ndB m (nd P i)=true∧∀ k∈(nd P i).kids,(i:Int)<k∧k<hi
  | .leaf lo _ l h _ _ _ _,i,h1,h2=>by
    obtain rfl:i=lo:=by omega
    rw[h]
    exact⟨rfl,fun k hk=>by cases hk⟩
  | .node lo hi _ c ks h hc _ hk hs,i,h1,h2=>by
    by_cases e:i=lo
    · subst e
      rw[h]
      refine⟨?_,fun k hkk=>?_⟩
      · unfold ndB
        rw[if_neg (by show ¬((c:Int) = -1);omega),decide_eq_true_eq]
        exact⟨by show (0:Int)≤c;omega,by show (c:Int)<_;omega,by show ks.length=_;rw[Int.toNat_natCast];exact hk,rfl,rfl,rfl⟩
      · have:=hs.kids_in k hkk
        omega
    · exact hs.node_ok i (by omega) h2
theorem Segs.node_ok {m:Mdl} {P:List Nd} {Q:List Int→Prop} {lo hi:Nat} {ab ks:List Int}:Segs m P Q lo hi ab ks→∀ i,lo≤i→i<hi→ndB m (nd P i)=true∧∀ k∈(nd P i).kids,(i:Int)<k∧k<hi
  | .nil lo _,i,h1,h2=>by omega
  | .cons lo mid hi _ ks h hs,i,h1,h2=>by
    have hle:=hs.le
    by_cases e:i<mid
    · obtain ⟨a,b⟩:=h.node_ok i h1 e
      exact⟨a,fun k hk=>by have:=b k hk;omega⟩
    · exact hs.node_ok i (by omega) h2
theorem Segs.kids_in {m:Mdl} {P:List Nd} {Q:List Int→Prop} {lo hi:Nat} {ab ks:List Int}:Segs m P Q lo hi ab ks→∀ k∈ks,(lo:Int)≤k∧k<hi
  | .nil lo _,k,hk=>by cases hk
  | .cons lo mid hi _ ks h hs,k,hk=>by
    have hlt:=h.lt
    have hle:=hs.le
    rcases List.mem_cons.1 hk with rfl | hk
    · omega
    · have:=hs.kids_in k hk;omega
end
mutual
theorem Seg.flat {m:Mdl} {P:List Nd} {Q:List Int→Prop} {lo hi:Nat} {ab:List Int}:Seg m P Q lo hi ab→∀ i,lo≤i→i<hi→(nd P i).mvs.length≤2000∧(nd P i).grp=[]∧(nd P i).cells=[]
  | .leaf lo _ l h hl _ _ _,i,h1,h2=>by
    obtain rfl:i=lo:=by omega
    rw[h]
    exact⟨hl,rfl,rfl⟩
  | .node lo hi _ c ks h hc _ hk hs,i,h1,h2=>by
    by_cases e:i=lo
    · subst e
      rw[h]
      exact⟨Nat.zero_le _,rfl,rfl⟩
    · exact hs.flat i (by omega) h2
theorem Segs.flat {m:Mdl} {P:List Nd} {Q:List Int→Prop} {lo hi:Nat} {ab ks:List Int}:Segs m P Q lo hi ab ks→∀ i,lo≤i→i<hi→(nd P i).mvs.length≤2000∧(nd P i).grp=[]∧(nd P i).cells=[]
  | .nil lo _,i,h1,h2=>by omega
  | .cons lo mid hi _ ks h hs,i,h1,h2=>by
    have hle:=hs.le
    by_cases e:i<mid
    · exact h.flat i h1 e
    · exact hs.flat i (by omega) h2
end
theorem segK_all (P:List Nd):segK P 0 P.length=allK P:=by
  unfold segK allK
  rw[Nat.sub_zero,← List.range_eq_range']
  have:∀ n,n≤P.length→(List.range n).flatMap (fun i=>(nd P i).kids)=(P.take n).flatMap (·.kids):=by
    intro n
    induction n with
    | zero=>intro _;rfl
    | succ n ih =>
      intro hn
      rw[List.range_succ,List.flatMap_append,ih (by omega),take_snoc (by omega),List.flatMap_append,List.flatMap_singleton,List.flatMap_singleton];rfl
  rw[this P.length (Nat.le_refl _),List.take_length]
theorem Seg.shaped {m:Mdl} {P:List Nd} {Q:List Int→Prop} (h:Seg m P Q 0 P.length []) (hn:P.length≤20000):shapedB m P=true:=by
  have hlt:=h.lt
  rw[shaped_end ⟨hlt,hn⟩ (fun i hi=>by
    obtain ⟨a,b⟩:=h.node_ok i (Nat.zero_le _) hi
    show nodeB m P.length i (nd P i)=true
    unfold nodeB
    rw[a,Bool.true_and,List.all_eq_true]
    intro k hk
    have:=b k hk
    unfold kidB
    rw[decide_eq_true_eq];exact this)]
  rw[Bool.not_eq_true',List.any_eq_false]
  intro x hx
  unfold parV at hx
  rw[← List.map_drop] at hx
  obtain ⟨j,hj,rfl⟩:=List.mem_map.1 hx
  have hj2:1≤j∧j<P.length:=by
    obtain ⟨i,hi,rfl⟩:=List.getElem_of_mem hj
    rw[List.length_drop,List.length_range] at hi
    rw[List.getElem_drop,List.getElem_range];omega
  have hc:=h.count j
  rw[segK_all,if_pos (by omega)] at hc
  rw[hc];decide
theorem leaf_right {m:Mdl} {left:List (List Bool)} {l:List Mv} (hl:l.length≤2000) (hv:∀ x∈l,mvB m x=true):leafT m left l=(valV m left (mvsL m l (S0 m,T0 m)),0):=by
  unfold leafT
  rw[if_neg (by omega),if_neg (by rw[List.all_eq_true.2 hv];simp)]
mutual
theorem Seg.visits {m:Mdl} {P:List Nd} {Q:List Int→Prop} (hd:Down P) {lo hi:Nat} {ab:List Int}:Seg m P Q lo hi ab→hi≤P.length→∀ left,∀ t∈vs P (lo,left,ab),t.2.2.contains (nd P t.1).cls=false∧((nd P t.1).cls = -1→(nd P t.1).grp.length=0∧(leafT m t.2.1 (nd P t.1).mvs).2=0)
  | .leaf lo ab l h hl hv ha _,hh,left,t,ht=>by
    rw[vs_leaf hd (by show lo<_;omega) (by show (nd P lo).kids=[];rw[h];rfl),List.mem_singleton] at ht
    subst ht
    dsimp only
    rw[h]
    refine⟨?_,fun _=>⟨rfl,by show (leafT m left l).2=0;rw[leaf_right hl hv]⟩⟩
    show ab.contains (-1)=false
    rw[Bool.eq_false_iff]
    intro hc
    exact ha (List.contains_iff_mem.1 hc)
  | .node lo hi ab c ks h hc ha hk hs,hh,left,t,ht=>by
    have hle:=hs.le
    rw[vs_step hd (by show lo<_;omega),List.mem_cons] at ht
    rcases ht with rfl | ht
    · dsimp only
      rw[h]
      refine⟨?_,fun h2=>absurd (show (c:Int) = -1 from h2) (by omega)⟩
      rw[Bool.eq_false_iff]
      intro hc
      exact ha (List.contains_iff_mem.1 hc)
    · obtain ⟨u,hu,ht⟩:=List.mem_flatMap.1 ht
      obtain ⟨o,ho,rfl⟩:=kid_mem (List.mem_reverse.1 hu)
      dsimp only at ho
      have hks:kidS P (lo,left,ab) o=((ks.getD o 0).toNat,onlyV left c o,ab++[(c:Int)]):=by
        unfold kidS
        dsimp only
        rw[h];rfl
      rw[hks] at ht
      rw[h] at ho
      exact hs.visits hd hh o ho _ t ht
theorem Segs.visits {m:Mdl} {P:List Nd} {Q:List Int→Prop} (hd:Down P) {lo hi:Nat} {ab ks:List Int}:Segs m P Q lo hi ab ks→hi≤P.length→∀ o,o<ks.length→∀ left,∀ t∈vs P ((ks.getD o 0).toNat,left,ab),t.2.2.contains (nd P t.1).cls=false∧((nd P t.1).cls = -1→(nd P t.1).grp.length=0∧(leafT m t.2.1 (nd P t.1).mvs).2=0)
  | .nil _ _,_,o,ho,_,_,_=>by cases ho
  | .cons lo mid hi ab ks h hs,hh,o,ho,left,t,ht=>by
    have hle:=hs.le
    cases o with
    | zero =>
      rw[List.getD_cons_zero,Int.toNat_natCast] at ht
      exact h.visits hd (by omega) left t ht
    | succ o =>
      rw[List.getD_cons_succ] at ht
      exact hs.visits hd hh o (by simpa using ho) left t ht
end
mutual
theorem Seg.leaves {m:Mdl} {P:List Nd} {Q:List Int→Prop} (hd:Down P) {lo hi:Nat} {ab:List Int}:Seg m P Q lo hi ab→hi≤P.length→∀ left,∀ t∈vs P (lo,left,ab),(nd P t.1).cls = -1→Q t.2.2
  | .leaf lo ab l h hl hv ha hq,hh,left,t,ht,_=>by
    rw[vs_leaf hd (by show lo<_;omega) (by show (nd P lo).kids=[];rw[h];rfl),List.mem_singleton] at ht
    subst ht
    exact hq
  | .node lo hi ab c ks h hc ha hk hs,hh,left,t,ht,hcl=>by
    have hle:=hs.le
    rw[vs_step hd (by show lo<_;omega),List.mem_cons] at ht
    rcases ht with rfl | ht
    · dsimp only at hcl
      rw[h] at hcl
      exact absurd (show (c:Int) = -1 from hcl) (by omega)
    · obtain ⟨u,hu,ht⟩:=List.mem_flatMap.1 ht
      obtain ⟨o,ho,rfl⟩:=kid_mem (List.mem_reverse.1 hu)
      dsimp only at ho
      have hks:kidS P (lo,left,ab) o=((ks.getD o 0).toNat,onlyV left c o,ab++[(c:Int)]):=by
        unfold kidS
        dsimp only
        rw[h];rfl
      rw[hks] at ht
      rw[h] at ho
      exact hs.leaves hd hh o ho _ t ht hcl
theorem Segs.leaves {m:Mdl} {P:List Nd} {Q:List Int→Prop} (hd:Down P) {lo hi:Nat} {ab ks:List Int}:Segs m P Q lo hi ab ks→hi≤P.length→∀ o,o<ks.length→∀ left,∀ t∈vs P ((ks.getD o 0).toNat,left,ab),(nd P t.1).cls = -1→Q t.2.2
  | .nil _ _,_,o,ho,_,_,_,_=>by cases ho
  | .cons lo mid hi ab ks h hs,hh,o,ho,left,t,ht,hcl=>by
    have hle:=hs.le
    cases o with
    | zero =>
      rw[List.getD_cons_zero,Int.toNat_natCast] at ht
      exact h.leaves hd (by omega) left t ht hcl
    | succ o =>
      rw[List.getD_cons_succ] at ht
      exact hs.leaves hd hh o (by simpa using ho) left t ht hcl
end
theorem Seg.chk {m:Mdl} {P:List Nd} {Q:List Int→Prop} (hm:VM m) (h:Seg m P Q 0 P.length []) (hn:P.length≤20000) :∃n,chkV m P=(n,true)∧∀ a,a≤1099511627776→(∀ s∈vs P (root m),(nd P s.1).cls = -1→a≤(leafT m s.2.1 (nd P s.1).mvs).1)→a≤n:=by
  have hs:=h.shaped hn
  exact chk_of hm hs fun s hs2=>h.visits (shaped_down hs) (Nat.le_refl _) (allT m) s hs2
end T
namespace T
def o0:Opt:=⟨0,0,0,0,0,[]⟩
def m1:Mdl:=⟨[[o0,o0],[o0,o0]],[⟨0,1,0,[0,2,4,3]⟩],[],1⟩
end T
namespace T
end T
namespace T
end T
namespace T
def szB (w:Nat):Nat→Nat
  | 0=>1
  | s+1=>1+w * szB w s
structure GrowOK (m:Mdl) (L:List Int) (w:Nat) (s:Nat) (ab:List Int) (nodes:List Nd) (r:List Nd × Nat):Prop where
  k:r.2≤L.length
  lt:nodes.length<r.1.length
  le:r.1.length≤nodes.length+szB w s
  pre:∀ i,i<nodes.length→nd r.1 i=nd nodes i
  seg:Seg m r.1 (fun _=>True) nodes.length r.1.length ab
theorem nd_app {P:List Nd} {x:Nd} {i:Nat} (h:i<P.length):nd (P++[x]) i=nd P i:=by
  unfold nd
  rw[List.getD_eq_getElem?_getD,List.getElem?_append_left h,List.getD_eq_getElem?_getD]
theorem nd_last {P:List Nd} {x:Nd}:nd (P++[x]) P.length=x:=by
  unfold nd
  rw[List.getD_eq_getElem?_getD,List.getElem?_append_right (Nat.le_refl _)];simp
theorem nd_set {P:List Nd} {x:Nd} {i j:Nat} (h:j<P.length):nd (P.set j x) i=if i=j then x else nd P i:=by
  unfold nd
  rw[List.getD_eq_getElem?_getD,List.getElem?_set]
  by_cases e:j=i
  · subst e;rw[if_pos rfl,if_pos h,if_pos rfl];rfl
  · rw[if_neg e,if_neg (Ne.symm e),List.getD_eq_getElem?_getD]
end T
namespace T
def upto (n:Nat):List Int:=(List.range n).map fun (j:Nat)=>(j:Int)
structure FullOK (m:Mdl) (w d:Nat) (nodes r:List Nd):Prop where
  lt:nodes.length<r.length
  le:r.length≤nodes.length+szB w d
  pre:∀ i,i<nodes.length→nd r i=nd nodes i
  seg:Seg m r (fun ab=>ab=upto m.cls.length) nodes.length r.length (upto (m.cls.length - d))
theorem onlyR_get {w o:Nat} (h:o<w) (j:Nat):(onlyR w o).getD j false=decide (j=o):=by
  unfold onlyR
  rw[List.getD_eq_getElem?_getD,List.getElem?_set,List.length_replicate]
  by_cases e:o=j
  · subst e;rw[if_pos rfl,if_pos h,decide_eq_true rfl];rfl
  · rw[if_neg e,List.getElem?_replicate,decide_eq_false (Ne.symm e)]
    split<;>rfl
end T
namespace T
def skipC (left:List (List Bool)):Nat→Nat→Nat
  | 0,c=>c
  | f+1,c=>if c<left.length∧(left.getD c default).length=1 then skipC left f (c+1) else c
def skipT (left:List (List Bool)) (c:Nat):Nat:=skipC left (left.length - c) c
theorem skipT_go {left:List (List Bool)} {c:Nat} (h:c<left.length∧(left.getD c default).length=1):skipT left c=skipT left (c+1):=by
  unfold skipT
  rw[show left.length - c=(left.length - (c+1))+1 by omega,skipC,if_pos h]
theorem skipT_end {left:List (List Bool)} {c:Nat} (h:¬(c<left.length∧(left.getD c default).length=1)):skipT left c=c:=by
  unfold skipT
  cases left.length - c with
  | zero=>rfl
  | succ f=>rw[skipC,if_neg h]
theorem skipT_ge {left:List (List Bool)}:∀ (k c:Nat),left.length - c=k→c≤skipT left c∧(c≤left.length→skipT left c≤left.length)∧(∀ j,c≤j→j<skipT left c→j<left.length∧(left.getD j default).length=1)∧(skipT left c<left.length→(left.getD (skipT left c) default).length≠1)
  | k,c,hk=>by
    by_cases h:c<left.length∧(left.getD c default).length=1
    · rw[skipT_go h]
      obtain ⟨a,b,d,e⟩:=skipT_ge (left:=left) (k - 1) (c+1) (by omega)
      refine⟨by omega,fun _=>b (by omega),fun j h1 h2=>?_,e⟩
      by_cases e2:j=c
      · subst e2;exact h
      · exact d j (by omega) h2
    · rw[skipT_end h]
      exact⟨Nat.le_refl _,fun h=>h,fun j h1 h2=>by omega,fun h1 h2=>h ⟨h1,h2⟩⟩
termination_by k c _=>left.length - c
def fstV:List Bool→Int→Int
  | [],_=>-1
  | b::r,i=>if b=true then i else fstV r (i+1)
def firstsV (left:List (List Bool)):List Int:=left.map fun l=>fstV l 0
structure DS where
  nodes:List Nd
  room:Int
  spl:Int
  whole:Bool
  plan:List Int
  tot:Int
  bnd:Int
def kidsD (f:List (List Bool)→DS→DS) (left:List (List Bool)) (c:Nat):Nat→Nat→DS→List Int→DS × List Int
  | 0,_,s,ks=>(s,ks)
  | w+1,o,s,ks=>kidsD f left c w (o+1) (f (onlyV left c o) s) (ks++[(s.nodes.length:Int)])
def splD (left:List (List Bool)) (c:Nat) (v:Int) (s:DS):DS:=⟨s.nodes++[leafN []],s.room - (left.getD c default).length,s.spl - 1,s.whole,s.plan,s.tot,s.bnd⟩
def finD (c j:Nat) (r:DS × List Int):DS:={ r.1 with nodes:=r.1.nodes.set j ⟨(c:Int),r.2,[],[],[]⟩ }
def downD (m:Mdl):Nat→Nat→List (List Bool)→DS→DS
  | 0,_,_,s=>s
  | f+1,c,left,s =>
    if s.tot≤priceV m left then { s with nodes:=s.nodes++[leafN []],bnd:=min s.bnd (priceV m left) }
    else if skipT left c=left.length then { s with nodes:=s.nodes++[leafN []],plan:=firstsV left,tot:=priceV m left,bnd:=min s.bnd (priceV m left) }
    else if s.spl=0∨s.room<(left.getD (skipT left c) default).length then { s with nodes:=s.nodes++[leafN []],whole:=false,bnd:=min s.bnd (priceV m left) }
    else finD (skipT left c) s.nodes.length (kidsD (downD m f (skipT left c+1)) left (skipT left c) (left.getD (skipT left c) default).length 0 (splD left (skipT left c) (priceV m left) s) [])
def totP (m:Mdl) (p:List Int):Int:=totalL (rulesV m p) 0
def bestK (f:List Int→List Int × Int) (p:List Int):Nat→Nat→List Int × Int→List Int × Int
  | 0,_,a=>a
  | w+1,k,a=>bestK f p w (k+1) (if (f (p++[(k:Int)])).2<a.2 then f (p++[(k:Int)]) else a)
def bestF (m:Mdl):Nat→List Int→List Int × Int
  | 0,p=>if 1099511627776≤totP m p then ([],1099511627776) else (p,totP m p)
  | d+1,p=>bestK (bestF m d) p (m.cls.getD p.length default).length 0 ([],1099511627776)
def foldK (f:List Int→List Int × Int→List Int × Int) (p:List Int):Nat→Nat→List Int × Int→List Int × Int
  | 0,_,a=>a
  | w+1,k,a=>foldK f p w (k+1) (f (p++[(k:Int)]) a)
def foldB (m:Mdl):Nat→List Int→List Int × Int→List Int × Int
  | 0,p,a=>if totP m p<a.2 then (p,totP m p) else a
  | d+1,p,a=>foldK (foldB m d) p (m.cls.getD p.length default).length 0 a
theorem bestK_fold {f:List Int→List Int × Int} {g:List Int→List Int × Int→List Int × Int} (p:List Int) (hg:∀ q a,a.2≤1099511627776→g q a=if (f q).2<a.2 then f q else a):∀ (w k:Nat) (a b:List Int × Int),b.2≤1099511627776 →
    foldK g p w k (if b.2<a.2 then b else a)=(if (bestK f p w k b).2<a.2 then bestK f p w k b else a)∨1099511627776<a.2
  | 0,k,a,b,hb=>.inl rfl
  | w+1,k,a,b,hb=>by
    by_cases ha:1099511627776<a.2
    · exact .inr ha
    rw[foldK,bestK,hg _ _ (by split<;>omega)]
    have h1:(if (f (p++[(k:Int)])).2<(if b.2<a.2 then b else a).2 then f (p++[(k:Int)]) else if b.2<a.2 then b else a)=(if (if (f (p++[(k:Int)])).2<b.2 then f (p++[(k:Int)]) else b).2<a.2 then (if (f (p++[(k:Int)])).2<b.2 then f (p++[(k:Int)]) else b) else a):=by
      generalize f (p++[(k:Int)])=x
      by_cases c1:b.2<a.2
      · rw[if_pos c1]
        by_cases c2:x.2<b.2
        · rw[if_pos c2,if_pos (by omega)]
        · rw[if_neg c2,if_pos c1]
      · rw[if_neg c1]
        by_cases c2:x.2<b.2
        · rw[if_pos c2]
        · rw[if_neg c2,if_neg c1,if_neg (by omega)]
    rw[h1]
    exact bestK_fold p hg w (k+1) a _ (by split<;>omega)
theorem bestK_le {f:List Int→List Int × Int} (p:List Int):∀ (w k:Nat) (a:List Int × Int),(bestK f p w k a).2≤a.2
  | 0,k,a=>Int.le_refl _
  | w+1,k,a=>by
    rw[bestK]
    refine Int.le_trans (bestK_le p w (k+1) _) ?_
    split<;>omega
theorem bestF_le (m:Mdl):∀ (d:Nat) (p:List Int),(bestF m d p).2≤1099511627776
  | 0,p=>by unfold bestF;split<;>(dsimp only;omega)
  | d+1,p=>bestK_le p _ _ _
theorem foldB_best (m:Mdl):∀ (d:Nat) (p:List Int) (a:List Int × Int),a.2≤1099511627776→foldB m d p a=if (bestF m d p).2<a.2 then bestF m d p else a
  | 0,p,a,ha=>by
    unfold foldB bestF
    by_cases h:1099511627776≤totP m p
    · rw[if_pos h,if_neg (by omega),if_neg (by dsimp only;omega)]
    · rw[if_neg h]
  | d+1,p,a,ha=>by
    unfold foldB bestF
    have h:=(bestK_fold p (fun q b hb=>foldB_best m d q b hb) (m.cls.getD p.length default).length 0 a ([],1099511627776) (Int.le_refl _)).resolve_right (by omega)
    rw[if_neg (by dsimp only;omega)] at h
    exact h
def Ext (m:Mdl) (p q:List Int):Prop:=FP m q∧∃ r,q=p++r
theorem foldK_stay {f:List Int→List Int × Int→List Int × Int} {p:List Int} {a:List Int × Int}:∀ (w k:Nat),(∀ j,k≤j→j<k+w→f (p++[(j:Int)]) a=a)→foldK f p w k a=a
  | 0,k,h=>rfl
  | w+1,k,h=>by rw[foldK,h k (Nat.le_refl _) (by omega)];exact foldK_stay w (k+1) fun j h1 h2=>h j (by omega) (by omega)
structure BP (m:Mdl) (p:List Int):Prop where
  len:p.length≤m.cls.length
  get:∀ j,j<p.length→0≤p.getD j 0∧p.getD j 0<(m.cls.getD j default).length
theorem getD_appL {p q:List Int} {j:Nat} (h:j<p.length):(p++q).getD j 0=p.getD j 0:=by
  rw[List.getD_eq_getElem?_getD,List.getElem?_append_left h,← List.getD_eq_getElem?_getD]
theorem getD_appE {p:List Int} {x:Int}:(p++[x]).getD p.length 0=x:=by
  rw[List.getD_eq_getElem?_getD,List.getElem?_append_right (Nat.le_refl _),Nat.sub_self];rfl
theorem BP.snoc {m:Mdl} {p:List Int} (h:BP m p) {k:Nat} (h1:p.length<m.cls.length) (hk:k<(m.cls.getD p.length default).length):BP m (p++[(k:Int)]):=⟨by rw[List.length_append];exact h1,fun j hj=>by
  rw[List.length_append] at hj
  by_cases e:j<p.length
  · rw[getD_appL e];exact h.get j e
  · obtain rfl:j=p.length:=by simp at hj;omega
    rw[getD_appE];omega⟩
theorem BP.fp {m:Mdl} {p:List Int} (h:BP m p) (hl:p.length=m.cls.length):FP m p:=⟨hl,fun j hj=>optB_iff.2 (by
  have:=h.get j hj
  rw[Int.toNat_natCast]
  omega)⟩
theorem foldB_stay {m:Mdl}:∀ (d:Nat) (p:List Int) (a:List Int × Int),BP m p→p.length+d=m.cls.length→(∀ q,Ext m p q→a.2≤totP m q)→foldB m d p a=a
  | 0,p,a,hp,hd,h=>by
    have:=h p ⟨hp.fp (by omega),[],by simp⟩
    unfold foldB
    rw[if_neg (by omega)]
  | d+1,p,a,hp,hd,h=>by
    unfold foldB
    refine foldK_stay _ _ fun j _ hj=>?_
    refine foldB_stay d _ a (hp.snoc (by omega) (by omega)) (by rw[List.length_append];simp;omega) fun q hq=>h q ⟨hq.1,?_⟩
    obtain ⟨r,rfl⟩:=hq.2
    exact⟨(j:Int)::r,by simp⟩
end T
namespace T
def val0 (m:Mdl) (left:List (List Bool)):Int:=valV m left (S0 m,T0 m)
mutual
inductive Tr (m:Mdl) (P:List Nd):Nat→Nat→List (List Bool)→List Int→List Int→Prop
  | leaf (lo:Nat) (left:List (List Bool)) (ab:List Int) (h:nd P lo=leafN []) (ha:(-1:Int) ∉ ab):Tr m P lo (lo+1) left ab [val0 m left]
  | node (lo hi:Nat) (left:List (List Bool)) (ab:List Int) (c:Nat) (ks vs:List Int) (h:nd P lo=⟨c,ks,[],[],[]⟩) (hc:c<m.cls.length) (ha:(c:Int) ∉ ab) (hk:ks.length=(m.cls.getD c default).length) (hs:Trs m P (lo+1) hi left c (ab++[(c:Int)]) 0 ks vs):Tr m P lo hi left ab vs
inductive Trs (m:Mdl) (P:List Nd):Nat→Nat→List (List Bool)→Nat→List Int→Nat→List Int→List Int→Prop
  | nil (lo:Nat) (left:List (List Bool)) (c:Nat) (ab:List Int) (o:Nat):Trs m P lo lo left c ab o [] []
  | cons (lo mid hi:Nat) (left:List (List Bool)) (c:Nat) (ab:List Int) (o:Nat) (ks v vs:List Int) (h:Tr m P lo mid (onlyV left c o) ab v) (hs:Trs m P mid hi left c ab (o+1) ks vs):Trs m P lo hi left c ab o ((lo:Int)::ks) (v++vs)
end
variable {m:Mdl} {P P':List Nd} {lo mid hi c o:Nat} {left:List (List Bool)} {ab ks v w:List Int}
theorem Trs.snoc (h2:Tr m P mid hi (onlyV left c (o+ks.length)) ab w) (h:Trs m P lo mid left c ab o ks v):Trs m P lo hi left c ab o (ks++[(mid:Int)]) (v++w):=by
  induction ks generalizing lo o v with
  | nil =>
    cases h
    have:=Trs.cons _ _ _ left c ab o [] w [] h2 (.nil _ _ _ _ _)
    simpa using this
  | cons k ks ih =>
    cases h with
    | cons _ mid' _ _ _ _ _ _ v1 vs h1 hs =>
      rw[List.append_assoc]
      exact .cons _ _ _ _ _ _ _ _ _ _ h1 (ih (by rw[List.length_cons] at h2;rwa [show o+1+ks.length=o+(ks.length+1) by omega]) hs)
mutual
theorem Tr.seg {lo hi:Nat} {left:List (List Bool)} {ab v:List Int}:Tr m P lo hi left ab v→Seg m P (fun _=>True) lo hi ab
  | .leaf _ _ _ h ha=>.leaf _ _ [] h (Nat.zero_le _) (fun _ h=>by cases h) ha trivial
  | .node _ _ _ _ c ks _ h hc ha hk hs=>.node _ _ _ c ks h hc ha hk hs.segs
theorem Trs.segs {lo hi c o:Nat} {left:List (List Bool)} {ab ks v:List Int}:Trs m P lo hi left c ab o ks v→Segs m P (fun _=>True) lo hi ab ks
  | .nil _ _ _ _ _=>.nil _ _
  | .cons _ mid _ _ _ _ _ _ _ _ h hs=>.cons _ mid _ _ _ h.seg hs.segs
end
mutual
theorem Tr.frame {lo hi:Nat} {left:List (List Bool)} {ab v:List Int}:Tr m P lo hi left ab v→(∀ i,lo≤i→i<hi→nd P' i=nd P i)→Tr m P' lo hi left ab v
  | .leaf _ _ _ h ha,hf=>.leaf _ _ _ ((hf _ (Nat.le_refl _) (Nat.lt_succ_self _)).trans h) ha
  | .node _ _ _ _ c ks _ h hc ha hk hs,hf=>.node _ _ _ _ c ks _ ((hf _ (Nat.le_refl _) (by have:=hs.segs.le;omega)).trans h) hc ha hk (hs.frame fun i h1 h2=>hf i (by omega) h2)
theorem Trs.frame {lo hi c o:Nat} {left:List (List Bool)} {ab ks v:List Int}:Trs m P lo hi left c ab o ks v→(∀ i,lo≤i→i<hi→nd P' i=nd P i)→Trs m P' lo hi left c ab o ks v
  | .nil _ _ _ _ _,_=>.nil _ _ _ _ _
  | .cons _ mid _ _ _ _ _ _ _ _ h hs,hf=>.cons _ mid _ _ _ _ _ _ _ _ (h.frame fun i h1 h2=>hf i h1 (by have:=hs.segs.le;omega)) (hs.frame fun i h1 h2=>hf i (by have:=h.seg.lt;omega) h2)
end
def LeafOf (m:Mdl) (P:List Nd) (t:St3) (x:Int):Prop:=(nd P t.1).cls = -1∧(nd P t.1).mvs=[]∧(nd P t.1).grp=[]∧val0 m t.2.1=x
mutual
theorem Tr.leaves {lo hi:Nat} {left:List (List Bool)} {ab v:List Int} (hd:Down P):Tr m P lo hi left ab v→hi≤P.length→(∀ t∈vs P (lo,left,ab),(nd P t.1).cls = -1→∃ x∈v,LeafOf m P t x)∧∀ x∈v,∃ t∈vs P (lo,left,ab),LeafOf m P t x
  | .leaf lo left ab h ha,hh=>by
    rw[vs_leaf hd (by show lo<_;omega) (by show (nd P lo).kids=[];rw[h];rfl)]
    have hl:LeafOf m P (lo,left,ab) (val0 m left):=⟨by show (nd P lo).cls = -1;rw[h];rfl,by show (nd P lo).mvs=[];rw[h];rfl,by show (nd P lo).grp=[];rw[h];rfl,rfl⟩
    constructor
    · intro t ht _
      rw[List.mem_singleton] at ht
      subst ht
      exact⟨_,by simp,hl⟩
    · intro x hx
      rw[List.mem_singleton] at hx
      subst hx
      exact⟨_,by simp,hl⟩
  | .node lo hi left ab c ks vl h hc ha hk hs,hh=>by
    have hle:=hs.segs.le
    obtain ⟨i1,i2⟩:=hs.leaves hd hh
    have hks:∀ o,kidS P (lo,left,ab) o=((ks.getD o 0).toNat,onlyV left c o,ab++[(c:Int)]):=fun o=>by
      unfold kidS
      dsimp only
      rw[h];rfl
    have hkl:(nd P lo).kids=ks:=by rw[h]
    rw[vs_step hd (by show lo<_;omega)]
    constructor
    · intro t ht hcl
      rw[List.mem_cons] at ht
      rcases ht with rfl | ht
      · dsimp only at hcl
        rw[h] at hcl
        exact absurd (show (c:Int) = -1 from hcl) (by omega)
      · obtain ⟨u,hu,ht⟩:=List.mem_flatMap.1 ht
        obtain ⟨o,ho,rfl⟩:=kid_mem (List.mem_reverse.1 hu)
        dsimp only at ho
        rw[hkl] at ho
        rw[hks] at ht
        rw[← Nat.zero_add o] at ht
        exact i1 o ho t (by simpa using ht) hcl
    · intro x hx
      obtain ⟨o,ho,t,ht,hl⟩:=i2 x hx
      rw[Nat.zero_add] at ht
      refine⟨t,List.mem_cons_of_mem _ (List.mem_flatMap.2 ⟨kidS P (lo,left,ab) o,List.mem_reverse.2 ?_,by rw[hks];exact ht⟩),hl⟩
      unfold kidsF kidsT
      exact List.mem_map.2 ⟨o,List.mem_range.2 (by show o<(nd P lo).kids.length;rw[hkl];exact ho),rfl⟩
theorem Trs.leaves {lo hi c o:Nat} {left:List (List Bool)} {ab ks v:List Int} (hd:Down P):Trs m P lo hi left c ab o ks v→hi≤P.length→(∀ i,i<ks.length→∀ t∈vs P ((ks.getD i 0).toNat,onlyV left c (o+i),ab),(nd P t.1).cls = -1→∃ x∈v,LeafOf m P t x)∧∀ x∈v,∃ i,i<ks.length∧∃ t∈vs P ((ks.getD i 0).toNat,onlyV left c (o+i),ab),LeafOf m P t x
  | .nil _ _ _ _ _,_=>⟨fun i hi=>(by cases hi),fun x hx=>(by cases hx)⟩
  | .cons lo mid hi left c ab o ks v w h hs,hh=>by
    have hle:=hs.segs.le
    obtain ⟨a1,a2⟩:=h.leaves hd (by omega)
    obtain ⟨b1,b2⟩:=hs.leaves hd hh
    constructor
    · intro i hi t ht hcl
      cases i with
      | zero =>
        rw[List.getD_cons_zero,Int.toNat_natCast] at ht
        obtain ⟨x,hx,hl⟩:=a1 t ht hcl
        exact⟨x,List.mem_append_left _ hx,hl⟩
      | succ i =>
        rw[List.getD_cons_succ,show o+(i+1)=o+1+i by omega] at ht
        obtain ⟨x,hx,hl⟩:=b1 i (by simpa using hi) t ht hcl
        exact⟨x,List.mem_append_right _ hx,hl⟩
    · intro x hx
      rcases List.mem_append.1 hx with hx | hx
      · obtain ⟨t,ht,hl⟩:=a2 x hx
        exact⟨0,by simp,t,by rw[List.getD_cons_zero,Int.toNat_natCast];exact ht,hl⟩
      · obtain ⟨i,hi,t,ht,hl⟩:=b2 x hx
        exact⟨i+1,by simpa using hi,t,by rw[List.getD_cons_succ,show o+(i+1)=o+1+i by omega];exact ht,hl⟩
end
def minL (l:List Int) (b:Int):Int:=l.foldl min b
theorem minL_le:∀ (l:List Int) (b:Int),minL l b≤b∧(∀ x∈l,minL l b≤x)∧(minL l b=b∨minL l b∈l)
  | [],b=>⟨Int.le_refl _,fun _ h=>(by cases h),.inl rfl⟩
  | x::l,b=>by
    obtain ⟨h1,h2,h3⟩:=minL_le l (min b x)
    have e:minL (x::l) b=minL l (min b x):=rfl
    rw[e]
    refine⟨by omega,fun y hy=>?_,?_⟩
    · rcases List.mem_cons.1 hy with rfl | hy
      · omega
      · exact h2 y hy
    · rcases h3 with h3 | h3
      · rcases Int.le_total b x with hb | hb
        · left;rw[h3];omega
        · right;rw[h3,Int.min_eq_right hb];simp
      · right;simp[h3]
theorem minL_app (l k:List Int) (b:Int):minL (l++k) b=minL k (minL l b):=List.foldl_append
theorem Tr.chk (hm:VM m) {v:List Int} (h:Tr m P 0 P.length (allT m) [] v) (hn:P.length≤20000):chkV m P=(minL v 1099511627776,true):=by
  have hsh:=h.seg.shaped hn
  have hd:=shaped_down hsh
  obtain ⟨n,h1,h2⟩:=h.seg.chk hm hn
  obtain ⟨l1,l2⟩:=h.leaves hd (Nat.le_refl _)
  obtain ⟨_,_,hr⟩:=chkV_iff h1
  obtain ⟨q1,q2⟩:=chk_leaf hr
  obtain ⟨m1,m2,m3⟩:=minL_le v 1099511627776
  have e1:minL v 1099511627776≤n:=h2 _ m1 fun s hs hcl=>by
    obtain ⟨x,hx,_,hmv,_,hv⟩:=l1 s hs hcl
    rw[hmv,leaf_nil]
    have:=m2 x hx
    unfold val0 at hv
    dsimp only
    omega
  have e2:n≤minL v 1099511627776:=by
    rcases m3 with e | e
    · omega
    · obtain ⟨t,ht,hcl,hmv,hgr,hv⟩:=l2 _ e
      have:=(q2 t ht).2 hcl
      rw[hgr,if_neg (by simp),hmv,leaf_nil] at this
      unfold val0 at hv
      dsimp only at this
      omega
  rw[h1,show n=minL v 1099511627776 by omega]
end T
namespace T
structure Dn (m:Mdl) (left:List (List Bool)) (p:List Int):Prop where
  fit:FitsP m left
  bp:BP m p
  one:∀ j,j<p.length→left.getD j default=onlyR (m.cls.getD j default).length (p.getD j 0).toNat
  all:∀ j,p.length≤j→j<m.cls.length→left.getD j default=List.replicate (m.cls.getD j default).length true
variable {m:Mdl} {left:List (List Bool)} {p:List Int}
theorem Dn.root (hm:VM m):Dn m (allT m) []:=by
  refine⟨all_fits hm,⟨Nat.zero_le _,fun j hj=>(by cases hj)⟩,fun j hj=>(by cases hj),fun j _ hj=>?_⟩
  unfold allT allV
  rw[if_pos (valid_iff.2 hm),map_getD _ _ _ hj]
theorem getD_ne {left:List (List Bool)} {c j:Nat} (x:List Bool) (h:c≠j):(left.set c x).getD j default=left.getD j default:=by
  rw[List.getD_eq_getElem?_getD,List.getElem?_set_ne h,← List.getD_eq_getElem?_getD]
theorem Dn.next (h:Dn m left p) (hc:p.length<m.cls.length) {k:Nat} (hk:k<(m.cls.getD p.length default).length):Dn m (onlyV left p.length k) (p++[(k:Int)]):=by
  refine⟨fits_map h.fit (onlyV_len _ _ _),h.bp.snoc hc hk,fun j hj=>?_,fun j h1 h2=>?_⟩
  · unfold onlyV
    rw[List.length_append] at hj
    by_cases e:j<p.length
    · rw[getD_ne _ (by omega),getD_appL e];exact h.one j e
    · obtain rfl:j=p.length:=by simp at hj;omega
      rw[getD_set _ _ _ (by rw[h.fit.1];exact hc),getD_appE,h.fit.2 _ (by rw[h.fit.1];exact hc)];rfl
  · unfold onlyV
    rw[List.length_append] at h1
    rw[getD_ne _ (by simp at h1;omega)]
    exact h.all j (by omega) h2
theorem Dn.single (h:Dn m left p) (hc:p.length<left.length) (h1:(left.getD p.length default).length=1):Dn m left (p++[0]):=by
  have hc':p.length<m.cls.length:=by rw[← h.fit.1];exact hc
  have hl:=h.fit.2 _ hc
  refine⟨h.fit,h.bp.snoc (k:=0) hc' (by omega),fun j hj=>?_,fun j h2 h3=>h.all j (by rw[List.length_append] at h2;omega) h3⟩
  rw[List.length_append] at hj
  by_cases e:j<p.length
  · rw[getD_appL e];exact h.one j e
  · obtain rfl:j=p.length:=by simp at hj;omega
    rw[getD_appE,h.all _ (Nat.le_refl _) hc',← hl,h1];rfl
theorem Dn.skip:∀ (k:Nat) (p:List Int),left.length - p.length=k→Dn m left p→∃ r:List Int,Dn m left (p++r)∧(p++r).length=skipT left p.length∧∀ a,foldB m (m.cls.length - p.length) p a=foldB m (m.cls.length - (p++r).length) (p++r) a
  | k,p,hk,h=>by
    by_cases hc:p.length<left.length∧(left.getD p.length default).length=1
    · have h1:=h.single hc.1 hc.2
      obtain ⟨r,a1,a2,a3⟩:=Dn.skip (k - 1) (p++[0]) (by rw[List.length_append];simp;omega) h1
      have e:p++[0]++r=p++(0::r):=by simp
      rw[e] at a1 a2 a3
      refine⟨0::r,a1,?_,fun a=>?_⟩
      · rw[skipT_go hc,a2];simp
      · rw[← a3 a]
        have hl:=h.fit.2 _ hc.1
        have hlt:p.length<m.cls.length:=by rw[← h.fit.1];exact hc.1
        rw[show m.cls.length - p.length=(m.cls.length - (p++[0]).length)+1 by simp;omega,foldB,← hl,hc.2];rfl
    · exact⟨[],by simpa using h,by rw[skipT_end hc];simp,fun a=>by simp⟩
termination_by k p _ _=>left.length - p.length
decreasing_by simp;omega
theorem Dn.inp (h:Dn m left p) {q:List Int} (hq:Ext m p q):InP m left q:=fun i hi=>by
  obtain ⟨hf,r,rfl⟩:=hq
  have hg:=optB_iff.1 (hf.get i (by rw[hf.len];exact hi))
  rw[Int.toNat_natCast] at hg
  by_cases e:i<p.length
  · have:=h.bp.get i e
    rw[h.one i e,getD_appL e,onlyR_get (by omega),decide_eq_true rfl]
  · rw[h.all i (by omega) hi,List.getD_eq_getElem?_getD,List.getElem?_replicate,if_pos (by omega)];rfl
theorem fstV_only:∀ (w o:Nat) (i:Int),o<w→fstV (onlyR w o) i=i+o
  | 0,o,i,h=>by omega
  | w+1,0,i,h=>by
    unfold onlyR
    rw[List.replicate_succ,List.set_cons_zero,fstV,if_pos rfl];simp
  | w+1,o+1,i,h=>by
    have:=fstV_only w o (i+1) (by omega)
    unfold onlyR at *
    rw[List.replicate_succ,List.set_cons_succ,fstV,if_neg (by simp),this];omega
theorem Dn.firsts (h:Dn m left p) (hl:p.length=m.cls.length):firstsV left=p:=by
  unfold firstsV
  apply List.ext_getElem
  · rw[List.length_map,h.fit.1,hl]
  · intro i h1 h2
    rw[List.getElem_map]
    have a1:=h.one i h2
    have a2:=h.bp.get i h2
    have e1:left[i]'(by rw[List.length_map] at h1;exact h1)=left.getD i default:=by
      rw[List.getD_eq_getElem?_getD,List.getElem?_eq_getElem (by rw[List.length_map] at h1;exact h1)];rfl
    have e2:p[i]=p.getD i 0:=by rw[List.getD_eq_getElem?_getD,List.getElem?_eq_getElem h2];rfl
    rw[e1,e2,a1,fstV_only _ _ _ (by omega)]
    omega
theorem Dn.onep (h:Dn m left p) (hl:p.length=m.cls.length):OneP m left p:=fun i hi j=>by
  have:=h.bp.get i (by omega)
  rw[h.one i (by omega),onlyR_get (by omega)]
theorem Dn.bound (hm:VM m) (h:Dn m left p) {q:List Int} (hq:Ext m p q):priceV m left≤totP m q:=by
  rw[price_eq hm h.fit]
  exact bound_law hm hq.1 left h.fit (h.inp hq) [] (fun _ h=>by cases h)
theorem Dn.exact (hm:VM m) (h:Dn m left p) (hl:p.length=m.cls.length):priceV m left=totP m p:=by
  rw[price_eq hm h.fit]
  exact exact_law hm (h.bp.fp hl) left h.fit (h.onep hl) [] (fun _ h=>by cases h)
structure DL (m:Mdl) (left:List (List Bool)) (p:List Int) (s r:DS):Prop where
  tot:r.tot≤s.tot
  bl:r.bnd≤s.bnd
  bt:r.tot<s.tot→r.bnd≤r.tot
  wh:r.whole=true→s.whole=true∧(r.plan,r.tot)=foldB m (m.cls.length - p.length) p (s.plan,s.tot)∧min s.bnd r.tot≤r.bnd
  room:(r.nodes.length:Int)+r.room=s.nodes.length+s.room+1
  rm0:0≤s.room→0≤r.room
  lt:s.nodes.length<r.nodes.length
  pre:∀ i,i<s.nodes.length→nd r.nodes i=nd s.nodes i
  tr:∀ ab:List Int,(∀ x∈ab,0≤x∧x<p.length)→∃ v,Tr m r.nodes s.nodes.length r.nodes.length left ab v∧r.bnd=minL v s.bnd
theorem DL.leaf (hm:VM m) (h:FitsP m left) {s r:DS} (hn:r.nodes=s.nodes++[leafN []]) (hr:r.room=s.room) (hb:r.bnd=min s.bnd (priceV m left)) (ht:r.tot≤s.tot) (hbt:r.tot<s.tot→r.tot=priceV m left)
    (hw:r.whole=true→s.whole=true∧(r.plan,r.tot)=foldB m (m.cls.length - p.length) p (s.plan,s.tot)∧r.tot≤priceV m left):DL m left p s r:=by
  refine⟨ht,by omega,fun h=>by have:=hbt h;omega,fun h=>?_,by rw[hn,hr];simp;omega,fun h=>by omega,by rw[hn];simp,fun i hi=>by rw[hn];exact nd_app hi,fun ab hab=>⟨[val0 m left],?_,?_⟩⟩
  · obtain ⟨a,b,c⟩:=hw h
    exact⟨a,b,by omega⟩
  · rw[hn,List.length_append]
    exact .leaf _ _ _ nd_last (fun h=>by have:=hab _ h;omega)
  · rw[hb];unfold minL val0;rw[price_eq hm h];rfl
theorem kidsD_ok {f:List (List Bool)→DS→DS} {ab:List Int} (hf:∀ k s,k<(m.cls.getD p.length default).length→DL m (onlyV left p.length k) (p++[(k:Int)]) s (f (onlyV left p.length k) s))
    (hab:∀ x∈ab,0≤x∧x<p.length+1):∀ (w o:Nat) (s:DS) (ks:List Int) (lo:Nat) (v:List Int),o+w=(m.cls.getD p.length default).length→ks.length=o→lo≤s.nodes.length→Trs m s.nodes lo s.nodes.length left p.length ab 0 ks v →
    (kidsD f left p.length w o s ks).1.tot≤s.tot∧(kidsD f left p.length w o s ks).1.bnd≤s.bnd∧((kidsD f left p.length w o s ks).1.tot<s.tot→(kidsD f left p.length w o s ks).1.bnd≤(kidsD f left p.length w o s ks).1.tot) ∧
    ((kidsD f left p.length w o s ks).1.whole=true→s.whole=true∧((kidsD f left p.length w o s ks).1.plan,(kidsD f left p.length w o s ks).1.tot)=foldK (foldB m (m.cls.length - (p.length+1))) p w o (s.plan,s.tot)∧min s.bnd (kidsD f left p.length w o s ks).1.tot≤(kidsD f left p.length w o s ks).1.bnd) ∧
    (((kidsD f left p.length w o s ks).1.nodes.length:Int)+(kidsD f left p.length w o s ks).1.room=s.nodes.length+s.room+w)∧(0≤s.room→0≤(kidsD f left p.length w o s ks).1.room)∧s.nodes.length≤(kidsD f left p.length w o s ks).1.nodes.length ∧
    (∀ i,i<s.nodes.length→nd (kidsD f left p.length w o s ks).1.nodes i=nd s.nodes i)∧(kidsD f left p.length w o s ks).2.length=o+w ∧
    ∃ u,Trs m (kidsD f left p.length w o s ks).1.nodes lo (kidsD f left p.length w o s ks).1.nodes.length left p.length ab 0 (kidsD f left p.length w o s ks).2 (v++u)∧(kidsD f left p.length w o s ks).1.bnd=minL u s.bnd
  | 0,o,s,ks,lo,v,ho,hk,hlo,hs=>⟨Int.le_refl _,Int.le_refl _,fun h=>absurd h (Int.lt_irrefl _),fun h=>⟨h,rfl,by show min s.bnd s.tot≤s.bnd;omega⟩,by show (s.nodes.length:Int)+s.room=_;simp,fun h=>h,Nat.le_refl _,fun _ _=>rfl,hk,[],by simpa [kidsD] using hs,rfl⟩
  | w+1,o,s,ks,lo,v,ho,hk,hlo,hs=>by
    have h:=hf o s (by omega)
    generalize hr:f (onlyV left p.length o) s=r at h
    have hl2:(p++[(o:Int)]).length=p.length+1:=by simp
    obtain ⟨t1,t2,t3,t4,t5,t6,t7,t8,t9⟩:=h
    obtain ⟨u,hu,hub⟩:=t9 ab fun x hx=>by rw[hl2];exact hab x hx
    have hs2:=Trs.snoc (ks:=ks) (o:=0) (by rw[hk,Nat.zero_add];exact hu) (hs.frame fun i _ h2=>t8 i h2)
    obtain ⟨i1,i2,i3,i4,i5,i6,i7,i8,i9,u2,i10,i11⟩:=kidsD_ok hf hab w (o+1) r (ks++[(s.nodes.length:Int)]) lo (v++u) (by omega) (by simp[hk]) (by omega) hs2
    rw[kidsD,hr]
    generalize kidsD f left p.length w (o+1) r (ks++[(s.nodes.length:Int)])=z at *
    refine⟨by omega,by omega,fun hlt=>?_,fun hw=>?_,by omega,fun h=>i6 (t6 h),by omega,fun i hi=>(i8 i (by omega)).trans (t8 i hi),by omega,u++u2,by rw[← List.append_assoc];exact i10,by rw[i11,hub,minL_app]⟩
    · by_cases e:z.1.tot<r.tot
      · exact i3 e
      · have:=t3 (by omega);omega
    · obtain ⟨a1,a2,a3⟩:=i4 hw
      obtain ⟨b1,b2,b3⟩:=t4 a1
      refine⟨b1,?_,by omega⟩
      rw[a2,foldK]
      rw[hl2] at b2
      rw[b2]
theorem downD_ok (hm:VM m):∀ (f:Nat) (left:List (List Bool)) (p:List Int) (s:DS),left.length+1≤f+p.length→Dn m left p→DL m left p s (downD m f p.length left s)
  | 0,left,p,s,hf,h=>by have:=h.bp.len;rw[← h.fit.1] at this;omega
  | f+1,left,p,s,hf,h=>by
    obtain ⟨r,h1,h2,h3⟩:=Dn.skip (left:=left) _ p rfl h
    obtain ⟨g1,g2,g3,g4⟩:=skipT_ge (left:=left) _ p.length rfl
    have hpl:p.length≤left.length:=by rw[h.fit.1];exact h.bp.len
    have hfit:=h.fit
    rw[downD]
    split
    · rename_i hv
      refine DL.leaf hm hfit rfl rfl rfl (Int.le_refl _) (fun h=>absurd h (Int.lt_irrefl _)) fun hw=>⟨hw,?_,hv⟩
      exact (foldB_stay _ p (s.plan,s.tot) h.bp (by have:=h.bp.len;omega) fun q hq=>Int.le_trans hv (h.bound hm hq)).symm
    rename_i hv
    split
    · rename_i he
      have hpe:(p++r).length=m.cls.length:=by rw[h2,he,hfit.1]
      refine DL.leaf hm hfit rfl rfl rfl (by dsimp only;omega) (fun _=>rfl) fun hw=>⟨hw,?_,Int.le_refl _⟩
      rw[h3,hpe,Nat.sub_self,foldB,← h1.exact hm hpe,if_pos (by dsimp only;omega),h1.firsts hpe]
    rename_i he
    split
    · exact DL.leaf hm hfit rfl rfl rfl (Int.le_refl _) (fun h=>absurd h (Int.lt_irrefl _)) fun hw=>by cases hw
    rename_i hrm
    rw[not_or] at hrm
    rw[← h2] at he hrm ⊢
    have hlt:(p++r).length<m.cls.length:=by
      have:=h1.bp.len
      rw[hfit.1] at he
      omega
    have hrow:(left.getD (p++r).length default).length=(m.cls.getD (p++r).length default).length:=hfit.2 _ (by rw[hfit.1];exact hlt)
    have hple:p.length≤(p++r).length:=by simp
    generalize hP:p++r=P at *
    have hK:=fun ab hab=>kidsD_ok (m:=m) (left:=left) (p:=P) (f:=downD m f (P.length+1)) (ab:=ab) (fun k s' hk=>by
      have:=downD_ok hm f (onlyV left P.length k) (P++[(k:Int)]) s' (by rw[show (onlyV left P.length k).length=left.length by unfold onlyV;simp];simp;omega) (h1.next hlt hk)
      rwa [show (P++[(k:Int)]).length=P.length+1 by simp] at this) hab (left.getD P.length default).length 0 (splD left P.length (priceV m left) s) [] (splD left P.length (priceV m left) s).nodes.length [] (by omega) rfl (Nat.le_refl _) (.nil _ _ _ _ _)
    obtain ⟨i1,i2,i3,i4,i5,i6,i7,i8,i9,_⟩:=hK [] (fun x hx=>by cases hx)
    have htr:=fun ab hab=>(hK ab hab).2.2.2.2.2.2.2.2.2
    clear hK
    generalize kidsD (downD m f (P.length+1)) left P.length (left.getD P.length default).length 0 (splD left P.length (priceV m left) s) []=z at *
    unfold splD at *
    dsimp only at *
    have hnl:(s.nodes++[leafN []]).length=s.nodes.length+1:=by simp
    rw[hnl] at i5 i7 i8
    have hpre:∀ i,i≠s.nodes.length→nd (finD P.length s.nodes.length z).nodes i=nd z.1.nodes i:=fun i hi=>by
      unfold finD
      rw[nd_set (by omega),if_neg hi]
    have hat:nd (finD P.length s.nodes.length z).nodes s.nodes.length=⟨(P.length:Int),z.2,[],[],[]⟩:=by
      unfold finD
      rw[nd_set (by omega),if_pos rfl]
    have hzl:(finD P.length s.nodes.length z).nodes.length=z.1.nodes.length:=by unfold finD;simp
    refine⟨i1,i2,i3,fun hw=>?_,by rw[hzl];show (z.1.nodes.length:Int)+z.1.room=_;omega,fun h=>i6 (by omega),by rw[hzl];omega,fun i hi=>?_,fun ab hab=>?_⟩
    · obtain ⟨a1,a2,a3⟩:=i4 hw
      refine⟨a1,?_,a3⟩
      rw[h3,show m.cls.length - P.length=(m.cls.length - (P.length+1))+1 by omega,foldB,← hrow]
      exact a2
    · rw[hpre i (by omega),i8 i (by omega)];exact nd_app hi
    · obtain ⟨u,hu,hb⟩:=htr (ab++[(P.length:Int)]) fun x hx=>by
        rcases List.mem_append.1 hx with hx | hx
        · have:=hab x hx;omega
        · rw[List.mem_singleton] at hx;omega
      rw[List.nil_append,hnl] at hu
      refine⟨u,?_,hb⟩
      rw[hzl]
      refine .node _ _ _ _ P.length z.2 _ hat hlt (fun hx=>by have:=hab _ hx;omega) (by rw[i9];omega) ?_
      exact hu.frame fun i h1 _=>hpre i (by omega)
end T
namespace T
def capQ (m:Mdl):Nat→Nat
  | 0=>1
  | d+1=>(m.cls.getD (m.cls.length - (d+1)) default).length * capQ m d
variable {m:Mdl} {left:List (List Bool)} {p:List Int}
theorem capQ_at {c:Nat} (h:c<m.cls.length):capQ m (m.cls.length - c)=(m.cls.getD c default).length * capQ m (m.cls.length - (c+1)):=by
  rw[show m.cls.length - c=(m.cls.length - (c+1))+1 by omega,capQ,show m.cls.length - (m.cls.length - (c+1)+1)=c by omega]
theorem capQ_pos (hsome:∀ l∈m.cls,1≤l.length):∀ d,d≤m.cls.length→1≤capQ m d
  | 0,_=>Nat.le_refl _
  | d+1,h=>Nat.mul_pos (hsome _ (getD_mem (by omega))) (capQ_pos hsome d (by omega))
theorem capQ_skip:∀ (k a b:Nat),b - a=k→a≤b→b≤m.cls.length→(∀ j,a≤j→j<b→(m.cls.getD j default).length=1)→capQ m (m.cls.length - a)=capQ m (m.cls.length - b)
  | 0,a,b,hk,h1,h2,h=>by rw[show a=b by omega]
  | k+1,a,b,hk,h1,h2,h=>by
    rw[capQ_at (by omega),h a (Nat.le_refl _) (by omega),Nat.one_mul]
    exact capQ_skip k (a+1) b (by omega) (by omega) h2 fun j h3 h4=>h j (by omega) h4
theorem kidsD_whole {f:List (List Bool)→DS→DS} {c N Q:Nat} (hf:∀ k s,k<N→s.whole=true→(2 * Q - 2:Int)≤s.room→(Q - 1:Int)≤s.spl→(f (onlyV left c k) s).whole=true∧s.room - (2 * Q - 2)≤(f (onlyV left c k) s).room∧s.spl - (Q - 1)≤(f (onlyV left c k) s).spl) (hQ:1≤Q) :
    ∀ (w o:Nat) (s:DS) (ks:List Int),o+w=N→s.whole=true→(w:Int) * (2 * Q - 2)≤s.room→(w:Int) * (Q - 1)≤s.spl→(kidsD f left c w o s ks).1.whole=true∧s.room - (w:Int) * (2 * Q - 2)≤(kidsD f left c w o s ks).1.room∧s.spl - (w:Int) * (Q - 1)≤(kidsD f left c w o s ks).1.spl
  | 0,o,s,ks,ho,h1,h2,h3=>⟨h1,by show s.room - _≤s.room;omega,by show s.spl - _≤s.spl;omega⟩
  | w+1,o,s,ks,ho,h1,h2,h3=>by
    have e1:((w+1:Nat):Int) * (2 * Q - 2)=(w:Int) * (2 * Q - 2)+(2 * Q - 2):=by rw[Int.natCast_add,Int.add_mul];simp
    have e2:((w+1:Nat):Int) * (Q - 1)=(w:Int) * (Q - 1)+(Q - 1):=by rw[Int.natCast_add,Int.add_mul];simp
    have p1:0≤(w:Int) * (2 * Q - 2):=Int.mul_nonneg (by omega) (by omega)
    have p2:0≤(w:Int) * (Q - 1):=Int.mul_nonneg (by omega) (by omega)
    rw[e1] at h2 ⊢
    rw[e2] at h3 ⊢
    obtain ⟨a,b,c'⟩:=hf o s (by omega) h1 (by omega) (by omega)
    obtain ⟨x,y,z⟩:=kidsD_whole hf hQ w (o+1) (f (onlyV left c o) s) (ks++[(s.nodes.length:Int)]) (by omega) a (by omega) (by omega)
    rw[kidsD]
    exact⟨x,by omega,by omega⟩
theorem downD_whole (hm:VM m) (hsome:∀ l∈m.cls,1≤l.length):∀ (f:Nat) (left:List (List Bool)) (p:List Int) (s:DS),left.length+1≤f+p.length→Dn m left p→s.whole=true→(2 * capQ m (m.cls.length - p.length) - 2:Int)≤s.room→(capQ m (m.cls.length - p.length) - 1:Int)≤s.spl →
    (downD m f p.length left s).whole=true∧s.room - (2 * capQ m (m.cls.length - p.length) - 2)≤(downD m f p.length left s).room∧s.spl - (capQ m (m.cls.length - p.length) - 1)≤(downD m f p.length left s).spl
  | 0,left,p,s,hf,h,_,_,_=>by have:=h.bp.len;rw[← h.fit.1] at this;omega
  | f+1,left,p,s,hf,h,hw,hr,hs=>by
    obtain ⟨r,h1,h2,h3⟩:=Dn.skip (left:=left) _ p rfl h
    obtain ⟨g1,g2,g3,g4⟩:=skipT_ge (left:=left) _ p.length rfl
    have hfit:=h.fit
    have hq1:=capQ_pos hsome (m.cls.length - p.length) (by omega)
    rw[downD]
    split
    · exact⟨hw,by show _≤s.room;omega,by show _≤s.spl;omega⟩
    split
    · exact⟨hw,by show _≤s.room;omega,by show _≤s.spl;omega⟩
    rename_i he
    rw[← h2] at he g1 g3 g4 ⊢
    have hple:p.length≤(p++r).length:=by simp
    have hlt:(p++r).length<m.cls.length:=by
      have:=h1.bp.len
      rw[hfit.1] at he
      omega
    have hrow:(left.getD (p++r).length default).length=(m.cls.getD (p++r).length default).length:=hfit.2 _ (by rw[hfit.1];exact hlt)
    have hcs:=capQ_skip (m:=m) _ p.length (p++r).length rfl hple (by omega) fun j h4 h5=>by rw[← hfit.2 j (g3 j h4 h5).1];exact (g3 j h4 h5).2
    rw[hcs] at hr hs hq1 ⊢
    generalize hP:p++r=P at *
    have hn2:2≤(m.cls.getD P.length default).length:=by
      have:=hsome _ (getD_mem (d:=default) hlt)
      have:=g4 (by rw[hfit.1];exact hlt)
      omega
    rw[capQ_at hlt] at hr hs hq1 ⊢
    have hQ:=capQ_pos hsome (m.cls.length - (P.length+1)) (by omega)
    have ih:=fun k s' hk=>downD_whole hm hsome f (onlyV left P.length k) (P++[(k:Int)]) s' (by rw[show (onlyV left P.length k).length=left.length by unfold onlyV;simp];simp;omega) (h1.next hlt hk)
    simp only[List.length_append,List.length_singleton] at ih
    generalize hq:capQ m (m.cls.length - (P.length+1))=Q at *
    generalize hN:(m.cls.getD P.length default).length=N at *
    have hmul:((N * Q:Nat):Int)=(N:Int) * Q:=by rw[Int.natCast_mul]
    rw[hmul] at hr hs ⊢
    have hge:(N:Int) * 1≤(N:Int) * Q:=Int.mul_le_mul_of_nonneg_left (by omega) (by omega)
    have e1:(N:Int) * (2 * Q - 2)=2 * ((N:Int) * Q) - 2 * N:=by rw[Int.mul_sub,Int.mul_left_comm];omega
    have e2:(N:Int) * (Q - 1)=(N:Int) * Q - N:=by rw[Int.mul_sub];omega
    rw[hrow]
    split
    · rename_i hbad
      rcases hbad with hbad | hbad<;>omega
    have hK:=kidsD_whole (left:=left) (f:=downD m f (P.length+1)) (c:=P.length) (N:=N) (Q:=Q) (fun k s' hk a b c=>ih k s' hk a b c) hQ N 0 (splD left P.length (priceV m left) s) [] (by omega) hw (by rw[e1];unfold splD;dsimp only;omega) (by rw[e2];unfold splD;dsimp only;omega)
    generalize kidsD (downD m f (P.length+1)) left P.length N 0 (splD left P.length (priceV m left) s) []=z at *
    obtain ⟨a,b,c⟩:=hK
    rw[e1] at b
    rw[e2] at c
    unfold splD at b c
    dsimp only at b c
    exact⟨a,by show _≤z.1.room;omega,by show _≤z.1.spl;omega⟩
theorem pcP_empty (left:List (List Bool)):∀ (l:List (List Opt)) (i:Nat) (n:Int),[]∈l→pcP left i l n=none
  | [],i,n,h=>by cases h
  | c::l,i,n,h=>by
    rw[pcP]
    split
    · rfl
    · rename_i hc
      refine pcP_empty left l _ _ ((List.mem_cons.1 h).resolve_left fun e=>hc ?_)
      rw[← e];rfl
theorem price_empty (h:[]∈m.cls) (left:List (List Bool)):priceV m left=1099511627776:=by
  unfold priceV;rw[pcP_empty left _ _ _ h];rfl
theorem bestK_or {f:List Int→List Int × Int} (hf:∀ q,f q=([],1099511627776)∨(f q).2<1099511627776) (p:List Int):∀ (w k:Nat) (a:List Int × Int),(a=([],1099511627776)∨a.2<1099511627776)→(bestK f p w k a=([],1099511627776)∨(bestK f p w k a).2<1099511627776)
  | 0,k,a,h=>h
  | w+1,k,a,h=>by
    rw[bestK]
    refine bestK_or hf p w (k+1) _ ?_
    split
    · exact hf _
    · exact h
theorem bestF_or (m:Mdl):∀ (d:Nat) (p:List Int),bestF m d p=([],1099511627776)∨(bestF m d p).2<1099511627776
  | 0,p=>by
    unfold bestF
    split
    · exact .inl rfl
    · exact .inr (by dsimp only;omega)
  | d+1,p=>bestK_or (bestF_or m d) p _ _ _ (.inl rfl)
def rootD:DS:=⟨[],19999,20000,true,[],1099511627776,1099511627776⟩
def leastD (m:Mdl):DS:=downD m (m.cls.length+1) 0 (allT m) rootD
theorem least_law (hm:VM m) (h:[]∈m.cls∨capQ m m.cls.length≤8000):(leastD m).whole=true∧((leastD m).plan,(leastD m).tot)=bestF m m.cls.length []∧(leastD m).bnd=(leastD m).tot∧chkV m (leastD m).nodes=((leastD m).tot,true)∧(leastD m).nodes.length≤20000:=by
  have hr:=Dn.root hm
  have hd:=downD_ok hm (m.cls.length+1) (allT m) [] rootD (by rw[hr.fit.1];simp) hr
  have hw:(leastD m).whole=true:=by
    by_cases he:[]∈m.cls
    · unfold leastD
      rw[downD,price_empty he,if_pos (by show (1099511627776:Int)≤_;omega)];rfl
    · have hsome:∀ l∈m.cls,1≤l.length:=fun l hl=>by
        cases l with
        | nil=>exact absurd hl he
        | cons a b=>simp
      have hc:=h.resolve_left he
      refine (downD_whole hm hsome (m.cls.length+1) (allT m) [] rootD (by rw[hr.fit.1];simp) hr rfl ?_ ?_).1
      · show (2 * capQ m m.cls.length - 2:Int)≤19999;omega
      · show (capQ m m.cls.length - 1:Int)≤20000;omega
  obtain ⟨d1,d2,d3,d4,d5,d6,d7,d8,d9⟩:=hd
  change (leastD m).tot≤1099511627776 at d1
  change (leastD m).bnd≤1099511627776 at d2
  change (leastD m).tot<1099511627776→(leastD m).bnd≤(leastD m).tot at d3
  obtain ⟨_,e1,e2⟩:=d4 hw
  change ((leastD m).plan,(leastD m).tot)=foldB m m.cls.length [] ([],1099511627776) at e1
  change min 1099511627776 (leastD m).tot≤(leastD m).bnd at e2
  change ((leastD m).nodes.length:Int)+(leastD m).room=0+19999+1 at d5
  have d6:0≤(leastD m).room:=d6 (by show (0:Int)≤19999;omega)
  have hb:(leastD m).bnd=(leastD m).tot:=by omega
  obtain ⟨v,hv,hbv⟩:=d9 [] (fun x hx=>by cases hx)
  have hbv:(leastD m).bnd=minL v 1099511627776:=hbv
  have hch:=Tr.chk (P:=(leastD m).nodes) hm hv (by omega)
  refine⟨hw,?_,hb,by rw[hch,← hbv,hb],by omega⟩
  rw[e1,foldB_best _ _ _ _ (Int.le_refl _)]
  rcases bestF_or m m.cls.length [] with e | e
  · rw[e];rfl
  · rw[if_pos e]
end T
namespace T
def plansL:List (List Opt)→Int→Int
  | [],n=>n
  | c::r,n=>if c.length=0 then 0 else plansL r (min (n * c.length) 65537)
def plansV (m:Mdl):Int:=if validV m=0 then plansL m.cls 1 else 0
def prodL:List (List Opt)→Nat
  | []=>1
  | c::r=>c.length * prodL r
theorem prodL_pos:∀ {l:List (List Opt)},[] ∉ l→1≤prodL l
  | [],_=>Nat.le_refl _
  | c::r,h=>Nat.mul_pos (by cases c with | nil=>simp at h | cons a b=>simp) (prodL_pos fun e=>h (by simp[e]))
theorem plansL_prod:∀ (l:List (List Opt)) (n:Nat),[] ∉ l→n≤65537→plansL l n=min ((n * prodL l:Nat):Int) 65537
  | [],n,h,hn=>by show (n:Int)=_;rw[prodL,Nat.mul_one];omega
  | c::r,n,h,hn=>by
    have hc:1≤c.length:=by cases c with | nil=>simp at h | cons a b=>simp
    have hr:[] ∉ r:=fun e=>h (by simp[e])
    have hp:=prodL_pos hr
    rw[plansL,if_neg (by omega),show (min ((n:Int) * c.length) 65537:Int)=((min (n * c.length) 65537:Nat):Int) by rw[← Int.natCast_mul];omega,plansL_prod r _ hr (by omega),prodL,← Nat.mul_assoc]
    by_cases e:n * c.length≤65537
    · rw[Nat.min_eq_left e]
    · rw[Nat.min_eq_right (by omega)]
      have h1:65537 * 1≤65537 * prodL r:=Nat.mul_le_mul_left _ hp
      have h2:65537 * 1≤n * c.length * prodL r:=Nat.mul_le_mul (by omega) hp
      omega
theorem capQ_prod (m:Mdl):∀ (d:Nat),d≤m.cls.length→capQ m d=prodL (m.cls.drop (m.cls.length - d))
  | 0,_=>by rw[Nat.sub_zero,List.drop_length];rfl
  | d+1,h=>by
    rw[capQ,getD_drop0 m.cls (m.cls.length - (d+1)) default (by omega),prodL,capQ_prod m d (by omega),show m.cls.length - (d+1)+1=m.cls.length - d by omega]
theorem plans_few {m:Mdl} (hm:VM m) (h:plansV m≤1000):[]∈m.cls∨capQ m m.cls.length≤8000:=by
  by_cases he:[]∈m.cls
  · exact .inl he
  · right
    unfold plansV at h
    rw[if_pos (valid_iff.2 hm),show (1:Int)=((1:Nat):Int) from rfl,plansL_prod _ _ he (by omega),Nat.one_mul] at h
    rw[capQ_prod m _ (Nat.le_refl _),Nat.sub_self,List.drop_zero]
    omega
theorem capQ_le {m:Mdl} {w:Nat} (h:∀ l∈m.cls,l.length≤w):∀ d,d≤m.cls.length→capQ m d≤w ^ d
  | 0,_=>Nat.le_refl _
  | d+1,hd=>by
    rw[capQ,Nat.pow_succ,Nat.mul_comm]
    exact Nat.mul_le_mul (capQ_le h d (by omega)) (h _ (getD_mem (by omega)))
theorem bestF_ind {m:Mdl} (Z:List Int × Int→Prop) (h0:Z ([],1099511627776)):∀ (d:Nat) (p:List Int),BP m p→p.length+d=m.cls.length→(∀ q,Ext m p q→totP m q<1099511627776→Z (q,totP m q))→Z (bestF m d p)
  | 0,p,hp,hd,h=>by
    unfold bestF
    split
    · exact h0
    · exact h p ⟨hp.fp (by omega),[],by simp⟩ (by omega)
  | d+1,p,hp,hd,h=>by
    unfold bestF
    have key:∀ (w k:Nat) (a:List Int × Int),k+w=(m.cls.getD p.length default).length→Z a→Z (bestK (bestF m d) p w k a):=by
      intro w
      induction w with
      | zero=>intro k a _ ha;exact ha
      | succ w ih =>
        intro k a hk ha
        rw[bestK]
        refine ih (k+1) _ (by omega) ?_
        split
        · refine bestF_ind Z h0 d _ (hp.snoc (by omega) (by omega)) (by rw[List.length_append];simp;omega) fun q hq=>h q ⟨hq.1,?_⟩
          obtain ⟨r,rfl⟩:=hq.2
          exact⟨(k:Int)::r,by simp⟩
        · exact ha
    exact key _ 0 _ (by omega) h0
theorem bp_nil (m:Mdl):BP m []:=⟨Nat.zero_le _,fun j hj=>by cases hj⟩
theorem best_plan {m:Mdl} (h:(bestF m m.cls.length []).2<1099511627776):FP m (bestF m m.cls.length []).1∧totP m (bestF m m.cls.length []).1=(bestF m m.cls.length []).2 :=
  bestF_ind (fun z=>z.2<1099511627776→FP m z.1∧totP m z.1=z.2) (fun h=>absurd h (Int.lt_irrefl _)) _ [] (bp_nil m) (by simp) (fun q hq _ _=>⟨hq.1,rfl⟩) h
theorem best_le {m:Mdl} {q:List Int} (hq:FP m q):(bestF m m.cls.length []).2≤totP m q:=by
  rcases Int.lt_or_le (totP m q) (bestF m m.cls.length []).2 with h | h
  · exfalso
    have h1:=foldB_best m m.cls.length [] (bestF m m.cls.length []) (bestF_le m _ _)
    rw[if_neg (Int.lt_irrefl _)] at h1
    have h2:∀ (d:Nat) (p:List Int) (a:List Int × Int),Ext m p q→p.length+d=m.cls.length→(foldB m d p a).2≤totP m q:=by
      have mono:∀ (d:Nat) (p:List Int) (a:List Int × Int),(foldB m d p a).2≤a.2:=by
        intro d
        induction d with
        | zero=>intro p a;unfold foldB;split<;>(try dsimp only)<;>omega
        | succ d ih =>
          intro p a
          unfold foldB
          have:∀ (w k:Nat) (b:List Int × Int),(foldK (foldB m d) p w k b).2≤b.2:=by
            intro w
            induction w with
            | zero=>intro k b;exact Int.le_refl _
            | succ w ihw=>intro k b;rw[foldK];exact Int.le_trans (ihw _ _) (ih _ _)
          exact this _ _ _
      intro d
      induction d with
      | zero =>
        intro p a hx hd
        obtain ⟨hf,r,rfl⟩:=hx
        have hl:=hf.len
        rw[List.length_append] at hl
        have:r=[]:=List.eq_nil_of_length_eq_zero (by omega)
        subst this
        rw[List.append_nil]
        unfold foldB;split<;>(try dsimp only)<;>omega
      | succ d ih =>
        intro p a hx hd
        obtain ⟨hf,r,rfl⟩:=hx
        have hl:=hf.len
        rw[List.length_append] at hl
        cases r with
        | nil=>simp at hl;omega
        | cons x r =>
          have hg:=optB_iff.1 (hf.get p.length (by simp))
          rw[Int.toNat_natCast,List.getD_eq_getElem?_getD,List.getElem?_append_right (Nat.le_refl _),Nat.sub_self] at hg
          change _∧_∧0≤x∧x<_ at hg
          unfold foldB
          have key:∀ (w k:Nat) (b:List Int × Int),k≤x.toNat→x.toNat<k+w→(foldK (foldB m d) p w k b).2≤totP m (p++x::r):=by
            have hm2:∀ (w k:Nat) (b:List Int × Int),(foldK (foldB m d) p w k b).2≤b.2:=by
              intro w
              induction w with
              | zero=>intro k b;exact Int.le_refl _
              | succ w ihw=>intro k b;rw[foldK];exact Int.le_trans (ihw _ _) (mono _ _ _)
            intro w
            induction w with
            | zero=>intro k b h1 h2;omega
            | succ w ihw =>
              intro k b h1 h2
              rw[foldK]
              by_cases e:k=x.toNat
              · refine Int.le_trans (hm2 _ _ _) ?_
                rw[show (k:Int)=x by omega]
                exact ih (p++[x]) b ⟨hf,r,by simp⟩ (by simp;omega)
              · exact ihw _ _ (by omega) (by omega)
          exact key _ 0 a (by omega) (by omega)
    have h3:=h2 m.cls.length [] (bestF m m.cls.length []) ⟨hq,q,by simp⟩ (by simp)
    rw[h1] at h3
    omega
  · exact h
theorem tot_none {m:Mdl} (hm:VM m) (h:m.cls.length=0):totP m []=0:=by
  unfold totP
  have hfp:FP m []:=⟨h.symm,fun j hj=>(by cases hj)⟩
  rw[total_sum hm hfp,h]
  have h1:m.prs.length=0:=by
    cases hp:m.prs with
    | nil=>rfl
    | cons p r =>
      have:=(pairB_iff (prsL_mem hm.pr p (by rw[hp];simp))).2
      omega
  have h2:sumN (fun i=>excP [] (m.cts.getD i default)) m.cts.length=0:=by
    have:∀ n,n≤m.cts.length→sumN (fun i=>excP [] (m.cts.getD i default)) n=0:=by
      intro n
      induction n with
      | zero=>intro _;rfl
      | succ n ih =>
        intro hn
        rw[sumN,ih (by omega)]
        obtain ⟨_,q2,_,q4⟩:=ctB_iff (hm.ct _ (getD_mem (l:=m.cts) (i:=n) (d:=default) (by omega)))
        have hl:(m.cts.getD n default).loads=[]:=by
          cases hl:(m.cts.getD n default).loads with
          | nil=>rfl
          | cons x r =>
            have:=optB_iff.1 (ldL_mem q4 x (by rw[hl];simp)).1
            omega
        unfold excP excV
        rw[hl,show loadS [] ([]:List Ld) 0=0 from rfl,if_pos (by omega)];rfl
    exact this _ (Nat.le_refl _)
  rw[h1,h2];rfl
end T
namespace T
theorem least_pb {m:Mdl} (hm:VM m):PB (leastD m).nodes∧(leastD m).nodes.length≤20000:=by
  have hr:=Dn.root hm
  have hd:=downD_ok hm (m.cls.length+1) (allT m) [] rootD (by rw[hr.fit.1];simp) hr
  obtain ⟨d1,d2,d3,d4,d5,d6,d7,d8,d9⟩:=hd
  change ((leastD m).nodes.length:Int)+(leastD m).room=0+19999+1 at d5
  have d6:0≤(leastD m).room:=d6 (by show (0:Int)≤19999;omega)
  obtain ⟨v,hv,_⟩:=d9 [] (fun x hx=>by cases hx)
  have hv:Tr m (leastD m).nodes 0 (leastD m).nodes.length (allT m) [] v:=hv
  have hn:=hv.seg.node_ok
  have hf:=hv.seg.flat
  have hget:∀ x∈(leastD m).nodes,∃ i,i<(leastD m).nodes.length∧nd (leastD m).nodes i=x:=fun x hx=>by
    obtain ⟨i,hi,rfl⟩:=List.getElem_of_mem hx
    exact⟨i,hi,by unfold nd;rw[List.getD_eq_getElem?_getD,List.getElem?_eq_getElem hi];rfl⟩
  refine⟨⟨by omega,fun x hx=>?_,fun x hx=>?_,fun x hx=>?_,fun x hx=>?_,fun x hx l hl=>?_⟩,by omega⟩
  all_goals
    obtain ⟨i,hi,rfl⟩:=hget x hx
    obtain ⟨f1,f2,f3⟩:=hf i (Nat.zero_le _) hi
    obtain ⟨n1,_⟩:=hn i (Nat.zero_le _) hi
  · have:=ndB_kids hm n1;omega
  · omega
  · rw[f2];decide
  · rw[f3];decide
  · rw[f3] at hl;cases hl
end T

