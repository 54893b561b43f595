import Derived.Test.YtdipcmigdbnheaaGreatX36
import Derived.Test.YtdipcmigdbnheaaGreatX37
set_option linter.unusedVariables false
set_option linter.unusedSimpArgs false
set_option linter.unnecessarySimpa false
set_option linter.unusedSectionVars false
set_option maxHeartbeats 64000000
set_option maxRecDepth 20000
open Nat renaming lt_succ_self→oP,le_refl→aH,zero_le→aD
open List renaming flatMap_append→oN,count_append→qb,mem_cons→bZ,range→aT,all_eq_true→fK,mem_singleton→ek,contains_iff_mem→q9,mem_flatMap→yD,mem_reverse→sC,getD_cons_zero→gP,getD_cons_succ→eS,getD_eq_getElem?_getD→ay,getElem?_set→bS
open Int renaming toNat_natCast→eT
open Bool renaming eq_false_iff→yA
open Go Go.Am
namespace T
mutual
inductive iY (m:ah) (P:List Nd) (Q:List Int→Prop):Nat→Nat→List Int→Prop
  | leaf (lo:Nat) (ab:List Int) (l:List Mv) (h:nd P lo=ld l) (hl:l.length≤2000) (hv:∀ x∈l,kK m x=true) (ha:(-1:Int) ∉ ab) (hq:Q ab):iY m P Q lo (lo+1) ab
  | node (lo hi:Nat) (ab:List Int) (c:Nat) (ks:List Int) (h:nd P lo=⟨c,ks,[],[],[]⟩) (hc:c<m.cls.length) (ha:(c:Int) ∉ ab) (hk:ks.length=(m.cls.getD c default).length) (hs:iZ m P Q (lo+1) hi (ab++[(c:Int)]) ks):iY m P Q lo hi ab
inductive iZ (m:ah) (P:List Nd) (Q:List Int→Prop):Nat→Nat→List Int→List Int→Prop
  | nil (lo:Nat) (ab:List Int):iZ m P Q lo lo ab []
  | cons (lo mid hi:Nat) (ab:List Int) (ks:List Int) (h:iY m P Q lo mid ab) (hs:iZ m P Q mid hi ab ks):iZ m P Q lo hi ab ((lo:Int)::ks)
end
theorem iZ.snoc {m:ah} {P:List Nd} {Q:List Int→Prop} {mid hi:Nat} {ab:List Int} (h2:iY m P Q mid hi ab):∀ {ks:List Int} {lo:Nat},iZ m P Q lo mid ab ks→iZ m P Q lo hi ab (ks++[(mid:Int)])
  | [],lo,h=>by
    cases h
    exact .cons _ _ _ _ _ h2 (.nil _ _)
  | k::ks,lo,h=>by
    cases h with
    | cons _ aci _ _ _ h1 hs=>exact .cons _ _ _ _ _ h1 (iZ.snoc h2 hs)
mutual
theorem iY.lt {m:ah} {P:List Nd} {Q:List Int→Prop} {lo hi:Nat} {ab:List Int}:iY m P Q lo hi ab→lo<hi
  | .leaf _ _ _ _ _ _ _ _=>oP _
  | .node _ _ _ _ _ _ _ _ _ hs=>by have:=hs.le;omega
theorem iZ.le {m:ah} {P:List Nd} {Q:List Int→Prop} {lo hi:Nat} {ab ks:List Int}:iZ m P Q lo hi ab ks→lo≤hi
  | .nil _ _=>aH _
  | .cons _ _ _ _ _ h hs=>by have:=h.lt;have:=hs.le;omega
end
mutual
theorem iY.frame {m:ah} {P P':List Nd} {Q:List Int→Prop} {lo hi:Nat} {ab:List Int}:iY m P Q lo hi ab→(∀ i,lo≤i→i<hi→nd P' i=nd P i)→iY m P' Q lo hi ab
  | .leaf _ _ l h hl hv ha hq,hf=>.leaf _ _ l ((hf _ (aH _) (oP _)).trans h) hl hv ha hq
  | .node _ _ _ c ks h hc ha hk hs,hf=>.node _ _ _ c ks ((hf _ (aH _) (by have:=hs.le;omega)).trans h) hc ha hk (hs.frame fun i h1 h2=>hf i (by omega) h2)
theorem iZ.frame {m:ah} {P P':List Nd} {Q:List Int→Prop} {lo hi:Nat} {ab ks:List Int}:iZ m P Q lo hi ab ks→(∀ i,lo≤i→i<hi→nd P' i=nd P i)→iZ m P' Q lo hi ab ks
  | .nil _ _,_=>.nil _ _
  | .cons _ mid _ _ _ h hs,hf=>.cons _ _ _ _ _ (h.frame fun i h1 h2=>hf i h1 (by have:=hs.le;omega)) (hs.frame fun i h1 h2=>hf i (by have:=h.lt;omega) h2)
end
def qX (P:List Nd) (lo hi:Nat):List Int:=(List.range' lo (hi - lo)).flatMap fun i=>(nd P i).kids
theorem VB (P:List Nd) {lo mid hi:Nat} (h1:lo≤mid) (h2:mid≤hi):qX P lo hi=qX P lo mid++qX P mid hi:=by
  unfold qX
  rw[← oN]
  congr 1
  have:=List.range'_append (s:=lo) (m:=mid - lo) (n:=hi - mid) (step:=1)
  simp only[Nat.one_mul] at this
  rw[show lo+(mid - lo)=mid by omega,show mid - lo+(hi - mid)=hi - lo by omega] at this
  exact this.symm
theorem VC (P:List Nd) (lo:Nat):qX P lo (lo+1)=(nd P lo).kids:=by
  unfold qX
  rw[show lo+1 - lo=1 by omega]
  simp
theorem adM (P:List Nd) (lo:Nat):qX P lo lo=[]:=by unfold qX;rw[Nat.sub_self];rfl
mutual
theorem iY.count {m:ah} {P:List Nd} {Q:List Int→Prop} {lo hi:Nat} {ab:List Int}:iY m P Q lo hi ab→∀ j:Nat,(qX P lo hi).count (j:Int)=if lo<j∧j<hi then 1 else 0
  | .leaf lo _ l h _ _ _ _,j=>by
    rw[VC,h,if_neg (by omega)];rfl
  | .node lo hi _ c ks h _ _ _ hs,j=>by
    have hle:=hs.le
    rw[VB P (Nat.le_succ lo) hle,VC,h,qb]
    have:=hs.count j
    dsimp only
    rw[this]
    by_cases h1:lo<j∧j<hi
    · rw[if_pos (by omega),if_pos h1]
    · rw[if_neg (by omega),if_neg h1]
theorem iZ.count {m:ah} {P:List Nd} {Q:List Int→Prop} {lo hi:Nat} {ab ks:List Int}:iZ m P Q lo hi ab ks→∀ j:Nat,ks.count (j:Int)+(qX P lo hi).count (j:Int)=if lo≤j∧j<hi then 1 else 0
  | .nil lo _,j=>by rw[adM,if_neg (by omega)];rfl
  | .cons lo mid hi _ ks h hs,j=>by
    have bj:=h.lt
    have hle:=hs.le
    rw[VB P (Nat.le_of_lt bj) hle,qb,List.count_cons]
    have h1:=h.count j
    have h2:=hs.count j
    have hb:((lo:Int) == (j:Int))=decide (lo=j):=by rw[Bool.eq_iff_iff,beq_iff_eq,decide_eq_true_eq];omega
    rw[h1,hb]
    by_cases e:lo=j
    · subst e
      rw[if_neg (by omega)] at h2
      simp only[decide_true,if_true]
      rw[if_neg (by omega),if_pos (by omega)]
      omega
    · simp only[decide_eq_false e,Bool.false_eq_true,if_false]
      by_cases h3:lo<j∧j<mid
      · rw[if_pos h3,if_pos (by omega)]
        rw[if_neg (by omega)] at h2
        omega
      · rw[if_neg h3]
        by_cases h4:mid≤j∧j<hi
        · rw[if_pos h4] at h2
          rw[if_pos (by omega)];omega
        · rw[if_neg h4] at h2
          rw[if_neg (by omega)];omega
end
mutual
theorem iY.Ab {m:ah} {P:List Nd} {Q:List Int→Prop} {lo hi:Nat} {ab:List Int}:iY m P Q lo hi ab→∀ i,lo≤i→i<hi→lh m (nd P i)=true∧∀ k∈(nd P i).kids,(i:Int)<k∧k<hi
  | .leaf lo _ l h _ _ _ _,i,h1,h2=>by
    obtain rfl:i=lo:=by omega
    rw[h]
    exact⟨rfl,fun k hk=>by cases hk⟩
  | .node lo hi _ c ks h hc _ hk hs,i,h1,h2=>by
    by_cases e:i=lo
    · subst e
      rw[h]
      refine⟨?_,fun k iT=>?_⟩
      · unfold lh
        rw[if_neg (by show ¬((c:Int) = -1);omega),decide_eq_true_eq]
        exact⟨by show (0:Int)≤c;omega,by show (c:Int)<_;omega,by show ks.length=_;rw[eT];exact hk,rfl,rfl,rfl⟩
      · have:=hs.VE k iT
        omega
    · exact hs.Ab i (by omega) h2
theorem iZ.Ab {m:ah} {P:List Nd} {Q:List Int→Prop} {lo hi:Nat} {ab ks:List Int}:iZ m P Q lo hi ab ks→∀ i,lo≤i→i<hi→lh m (nd P i)=true∧∀ k∈(nd P i).kids,(i:Int)<k∧k<hi
  | .nil lo _,i,h1,h2=>by omega
  | .cons lo mid hi _ ks h hs,i,h1,h2=>by
    have hle:=hs.le
    by_cases e:i<mid
    · obtain ⟨a,b⟩:=h.Ab i h1 e
      exact⟨a,fun k hk=>by have:=b k hk;omega⟩
    · exact hs.Ab i (by omega) h2
theorem iZ.VE {m:ah} {P:List Nd} {Q:List Int→Prop} {lo hi:Nat} {ab ks:List Int}:iZ m P Q lo hi ab ks→∀ k∈ks,(lo:Int)≤k∧k<hi
  | .nil lo _,k,hk=>by cases hk
  | .cons lo mid hi _ ks h hs,k,hk=>by
    have bj:=h.lt
    have hle:=hs.le
    rcases bZ.1 hk with rfl | hk
    · omega
    · have:=hs.VE k hk;omega
end
mutual
theorem iY.flat {m:ah} {P:List Nd} {Q:List Int→Prop} {lo hi:Nat} {ab:List Int}:iY m P Q lo hi ab→∀ i,lo≤i→i<hi→(nd P i).cY.length≤2000∧(nd P i).cM=[]∧(nd P i).cells=[]
  | .leaf lo _ l h hl _ _ _,i,h1,h2=>by
    obtain rfl:i=lo:=by omega
    rw[h]
    exact⟨hl,rfl,rfl⟩
  | .node lo hi _ c ks h hc _ hk hs,i,h1,h2=>by
    by_cases e:i=lo
    · subst e
      rw[h]
      exact⟨aD _,rfl,rfl⟩
    · exact hs.flat i (by omega) h2
theorem iZ.flat {m:ah} {P:List Nd} {Q:List Int→Prop} {lo hi:Nat} {ab ks:List Int}:iZ m P Q lo hi ab ks→∀ i,lo≤i→i<hi→(nd P i).cY.length≤2000∧(nd P i).cM=[]∧(nd P i).cells=[]
  | .nil lo _,i,h1,h2=>by omega
  | .cons lo mid hi _ ks h hs,i,h1,h2=>by
    have hle:=hs.le
    by_cases e:i<mid
    · exact h.flat i h1 e
    · exact hs.flat i (by omega) h2
end
theorem adN (P:List Nd):qX P 0 P.length=eG P:=by
  unfold qX eG
  rw[Nat.sub_zero,← List.range_eq_range']
  have:∀ n,n≤P.length→(aT n).flatMap (fun i=>(nd P i).kids)=(P.take n).flatMap (·.kids):=by
    intro n
    induction n with
    | zero=>intro _;rfl
    | succ n ih =>
      intro hn
      rw[List.range_succ,oN,ih (by omega),eu (by omega),oN,List.flatMap_singleton,List.flatMap_singleton];rfl
  rw[this P.length (aH _),List.take_length]
theorem iY.shaped {m:ah} {P:List Nd} {Q:List Int→Prop} (h:iY m P Q 0 P.length []) (hn:P.length≤20000):iK m P=true:=by
  have bj:=h.lt
  rw[Ex ⟨bj,hn⟩ (fun i hi=>by
    obtain ⟨a,b⟩:=h.Ab i (aD _) hi
    show jQ m P.length i (nd P i)=true
    unfold jQ
    rw[a,Bool.true_and,fK]
    intro k hk
    have:=b k hk
    unfold kl
    rw[decide_eq_true_eq];exact this)]
  rw[Bool.not_eq_true',List.any_eq_false]
  intro x hx
  unfold iU at hx
  rw[← List.map_drop] at hx
  obtain ⟨j,hj,rfl⟩:=List.mem_map.1 hx
  have Bb:1≤j∧j<P.length:=by
    obtain ⟨i,hi,rfl⟩:=List.getElem_of_mem hj
    rw[List.length_drop,List.length_range] at hi
    rw[List.getElem_drop,List.getElem_range];omega
  have hc:=h.count j
  rw[adN,if_pos (by omega)] at hc
  rw[hc];decide
theorem adO {m:ah} {left:List (List Bool)} {l:List Mv} (hl:l.length≤2000) (hv:∀ x∈l,kK m x=true):iw m left l=(mR m left (iW m l (S0 m,T0 m)),0):=by
  unfold iw
  rw[if_neg (by omega),if_neg (by rw[fK.2 hv];simp)]
mutual
theorem iY.CK {m:ah} {P:List Nd} {Q:List Int→Prop} (hd:Down P) {lo hi:Nat} {ab:List Int}:iY m P Q lo hi ab→hi≤P.length→∀ left,∀ t∈vs P (lo,left,ab),t.2.2.contains (nd P t.1).cls=false∧((nd P t.1).cls = -1→(nd P t.1).cM.length=0∧(iw m t.2.1 (nd P t.1).cY).2=0)
  | .leaf lo ab l h hl hv ha _,hh,left,t,ht=>by
    rw[I0 hd (by show lo<_;omega) (by show (nd P lo).kids=[];rw[h];rfl),ek] at ht
    subst ht
    dsimp only
    rw[h]
    refine⟨?_,fun _=>⟨rfl,by show (iw m left l).2=0;rw[adO hl hv]⟩⟩
    show ab.contains (-1)=false
    rw[yA]
    intro hc
    exact ha (q9.1 hc)
  | .node lo hi ab c ks h hc ha hk hs,hh,left,t,ht=>by
    have hle:=hs.le
    rw[Cc hd (by show lo<_;omega),bZ] at ht
    rcases ht with rfl | ht
    · dsimp only
      rw[h]
      refine⟨?_,fun h2=>absurd (show (c:Int) = -1 from h2) (by omega)⟩
      rw[yA]
      intro hc
      exact ha (q9.1 hc)
    · obtain ⟨u,hu,ht⟩:=yD.1 ht
      obtain ⟨o,ho,rfl⟩:=tp (sC.1 hu)
      dsimp only at ho
      have pM:lM P (lo,left,ab) o=((ks.getD o 0).toNat,bF left c o,ab++[(c:Int)]):=by
        unfold lM
        dsimp only
        rw[h];rfl
      rw[pM] at ht
      rw[h] at ho
      exact hs.CK hd hh o ho _ t ht
theorem iZ.CK {m:ah} {P:List Nd} {Q:List Int→Prop} (hd:Down P) {lo hi:Nat} {ab ks:List Int}:iZ m P Q lo hi ab ks→hi≤P.length→∀ o,o<ks.length→∀ left,∀ t∈vs P ((ks.getD o 0).toNat,left,ab),t.2.2.contains (nd P t.1).cls=false∧((nd P t.1).cls = -1→(nd P t.1).cM.length=0∧(iw m t.2.1 (nd P t.1).cY).2=0)
  | .nil _ _,_,o,ho,_,_,_=>by cases ho
  | .cons lo mid hi ab ks h hs,hh,o,ho,left,t,ht=>by
    have hle:=hs.le
    cases o with
    | zero =>
      rw[gP,eT] at ht
      exact h.CK hd (by omega) left t ht
    | succ o =>
      rw[eS] at ht
      exact hs.CK hd hh o (by simpa using ho) left t ht
end
mutual
theorem iY.leaves {m:ah} {P:List Nd} {Q:List Int→Prop} (hd:Down P) {lo hi:Nat} {ab:List Int}:iY m P Q lo hi ab→hi≤P.length→∀ left,∀ t∈vs P (lo,left,ab),(nd P t.1).cls = -1→Q t.2.2
  | .leaf lo ab l h hl hv ha hq,hh,left,t,ht,_=>by
    rw[I0 hd (by show lo<_;omega) (by show (nd P lo).kids=[];rw[h];rfl),ek] at ht
    subst ht
    exact hq
  | .node lo hi ab c ks h hc ha hk hs,hh,left,t,ht,ca=>by
    have hle:=hs.le
    rw[Cc hd (by show lo<_;omega),bZ] at ht
    rcases ht with rfl | ht
    · dsimp only at ca
      rw[h] at ca
      exact absurd (show (c:Int) = -1 from ca) (by omega)
    · obtain ⟨u,hu,ht⟩:=yD.1 ht
      obtain ⟨o,ho,rfl⟩:=tp (sC.1 hu)
      dsimp only at ho
      have pM:lM P (lo,left,ab) o=((ks.getD o 0).toNat,bF left c o,ab++[(c:Int)]):=by
        unfold lM
        dsimp only
        rw[h];rfl
      rw[pM] at ht
      rw[h] at ho
      exact hs.leaves hd hh o ho _ t ht ca
theorem iZ.leaves {m:ah} {P:List Nd} {Q:List Int→Prop} (hd:Down P) {lo hi:Nat} {ab ks:List Int}:iZ m P Q lo hi ab ks→hi≤P.length→∀ o,o<ks.length→∀ left,∀ t∈vs P ((ks.getD o 0).toNat,left,ab),(nd P t.1).cls = -1→Q t.2.2
  | .nil _ _,_,o,ho,_,_,_,_=>by cases ho
  | .cons lo mid hi ab ks h hs,hh,o,ho,left,t,ht,ca=>by
    have hle:=hs.le
    cases o with
    | zero =>
      rw[gP,eT] at ht
      exact h.leaves hd (by omega) left t ht ca
    | succ o =>
      rw[eS] at ht
      exact hs.leaves hd hh o (by simpa using ho) left t ht ca
end
theorem iY.ey {m:ah} {P:List Nd} {Q:List Int→Prop} (hm:VM m) (h:iY m P Q 0 P.length []) (hn:P.length≤20000) :∃n,lG m P=(n,true)∧∀ a,a≤1099511627776→(∀ s∈vs P (root m),(nd P s.1).cls = -1→a≤(iw m s.2.1 (nd P s.1).cY).1)→a≤n:=by
  have hs:=h.shaped hn
  exact adP hm hs fun s iD=>h.CK (tq hs) (aH _) (ef m) s iD
def JG (w:Nat):Nat→Nat
  | 0=>1
  | s+1=>1+w * JG w s
structure ahA (m:ah) (L:List Int) (w:Nat) (s:Nat) (ab:List Int) (nodes:List Nd) (r:List Nd × Nat):Prop where
  k:r.2≤L.length
  lt:nodes.length<r.1.length
  le:r.1.length≤nodes.length+JG w s
  pre:∀ i,i<nodes.length→nd r.1 i=nd nodes i
  v8:iY m r.1 (fun _=>True) nodes.length r.1.length ab
theorem T5 {P:List Nd} {x:Nd} {i:Nat} (h:i<P.length):nd (P++[x]) i=nd P i:=by
  unfold nd
  rw[ay,List.getElem?_append_left h,ay]
theorem acp {P:List Nd} {x:Nd}:nd (P++[x]) P.length=x:=by
  unfold nd
  rw[ay,List.getElem?_append_right (aH _)];simp
theorem T8 {P:List Nd} {x:Nd} {i j:Nat} (h:j<P.length):nd (P.set j x) i=if i=j then x else nd P i:=by
  unfold nd
  rw[ay,bS]
  by_cases e:j=i
  · subst e;rw[if_pos rfl,if_pos h,if_pos rfl];rfl
  · rw[if_neg e,if_neg (Ne.symm e),ay]
def upto (n:Nat):List Int:=(aT n).map fun (j:Nat)=>(j:Int)
structure ahB (m:ah) (w d:Nat) (nodes r:List Nd):Prop where
  lt:nodes.length<r.length
  le:r.length≤nodes.length+JG w d
  pre:∀ i,i<nodes.length→nd r i=nd nodes i
  v8:iY m r (fun ab=>ab=upto m.cls.length) nodes.length r.length (upto (m.cls.length - d))
theorem T3 {w o:Nat} (h:o<w) (j:Nat):(lI w o).getD j false=decide (j=o):=by
  unfold lI
  rw[ay,bS,List.length_replicate]
  by_cases e:o=j
  · subst e;rw[if_pos rfl,if_pos h,decide_eq_true rfl];rfl
  · rw[if_neg e,List.getElem?_replicate,decide_eq_false (Ne.symm e)]
    split<;>rfl
end T

