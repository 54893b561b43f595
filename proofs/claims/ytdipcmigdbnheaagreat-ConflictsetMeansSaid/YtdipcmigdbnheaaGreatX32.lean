import Derived.Test.YtdipcmigdbnheaaGreatX31
import Derived.Test.YtdipcmigdbnheaaGreatX27
import Derived.Test.YtdipcmigdbnheaaGreatX15
set_option linter.unusedVariables false
set_option linter.unusedSimpArgs false
set_option linter.unnecessarySimpa false
set_option linter.unusedSectionVars false
set_option maxHeartbeats 64000000
set_option maxRecDepth 20000
open Nat renaming lt_succ_self→ny,le_refl→aG,one_mul→pX,sub_self→j8,zero_le→aM,sub_zero→uL,zero_add→fi,mul_le_mul→zC,le_trans→iJ
open List renaming flatMap_append→qU,count_append→JV,mem_cons→cu,range→aN,all_eq_true→gU,any_eq_false→Fs,mem_map→ca,mem_singleton→eM,contains_iff_mem→tB,mem_flatMap→Fv,mem_reverse→wi,getD_cons_zero→gb,getD_cons_succ→eJ,getD_eq_getElem?_getD→aA,getElem?_append_left→cn,getElem?_append_right→eK,getElem?_set→b6,getElem?_replicate→uM,length_append→bV,append_assoc→dI,mem_range→lP,mem_append→cr,replicate_succ→JP,length_map→ey,getElem?_eq_getElem→bX,getElem?_map→cm,map_cons→dO,length_filter_le→xP,mem_filter→nx,length→su
open Int renaming toNat_natCast→gD,le_refl→dE,le_trans→pk,lt_irrefl→Fw,natCast_add→uQ,add_mul→JT,mul_nonneg→p6,natCast_mul→Fo
open Bool renaming eq_false_iff→Cc,and_eq_true→bk
open Go Go.Am
namespace T
mutual
inductive jo (m:aj) (P:List Nd) (Q:List Int→Prop):Nat→Nat→List Int→Prop
  | leaf (lo:Nat) (ab:List Int) (l:List Mv) (h:nd P lo=lp l) (hl:l.length≤2000) (hv:∀ x∈l,o6 m x=true) (ha:(-1:Int) ∉ ab) (hq:Q ab):jo m P Q lo (lo+1) ab
  | node (lo hi:Nat) (ab:List Int) (c:Nat) (ks:List Int) (h:nd P lo=⟨c,ks,[],[],[]⟩) (hc:c<m.cls.length) (ha:(c:Int) ∉ ab) (hk:ks.length=(m.cls.getD c default).length) (hs:jq m P Q (lo+1) hi (ab++[(c:Int)]) ks):jo m P Q lo hi ab
inductive jq (m:aj) (P:List Nd) (Q:List Int→Prop):Nat→Nat→List Int→List Int→Prop
  | nil (lo:Nat) (ab:List Int):jq m P Q lo lo ab []
  | cons (lo mid hi:Nat) (ab:List Int) (ks:List Int) (h:jo m P Q lo mid ab) (hs:jq m P Q mid hi ab ks):jq m P Q lo hi ab ((lo:Int)::ks)
end
theorem jq.snoc {m:aj} {P:List Nd} {Q:List Int→Prop} {mid hi:Nat} {ab:List Int} (h2:jo m P Q mid hi ab):∀ {ks:List Int} {lo:Nat},jq m P Q lo mid ab ks→jq m P Q lo hi ab (ks++[(mid:Int)])
  | [],lo,h=>by
    cases h
    exact .cons _ _ _ _ _ h2 (.nil _ _)
  | k::ks,lo,h=>by
    cases h with
    | cons _ ac0 _ _ _ h1 hs=>exact .cons _ _ _ _ _ h1 (jq.snoc h2 hs)
mutual
theorem jo.lt {m:aj} {P:List Nd} {Q:List Int→Prop} {lo hi:Nat} {ab:List Int}:jo m P Q lo hi ab→lo<hi
  | .leaf _ _ _ _ _ _ _ _=>ny _
  | .node _ _ _ _ _ _ _ _ _ hs=>by have:=hs.le;omega
theorem jq.le {m:aj} {P:List Nd} {Q:List Int→Prop} {lo hi:Nat} {ab ks:List Int}:jq m P Q lo hi ab ks→lo≤hi
  | .nil _ _=>aG _
  | .cons _ _ _ _ _ h hs=>by have:=h.lt;have:=hs.le;omega
end
mutual
theorem jo.frame {m:aj} {P P':List Nd} {Q:List Int→Prop} {lo hi:Nat} {ab:List Int}:jo m P Q lo hi ab→(∀ i,lo≤i→i<hi→nd P' i=nd P i)→jo m P' Q lo hi ab
  | .leaf _ _ l h hl hv ha hq,hf=>.leaf _ _ l ((hf _ (aG _) (ny _)).trans h) hl hv ha hq
  | .node _ _ _ c ks h hc ha hk hs,hf=>.node _ _ _ c ks ((hf _ (aG _) (by have:=hs.le;omega)).trans h) hc ha hk (hs.frame fun i h1 h2=>hf i (by omega) h2)
theorem jq.frame {m:aj} {P P':List Nd} {Q:List Int→Prop} {lo hi:Nat} {ab ks:List Int}:jq m P Q lo hi ab ks→(∀ i,lo≤i→i<hi→nd P' i=nd P i)→jq m P' Q lo hi ab ks
  | .nil _ _,_=>.nil _ _
  | .cons _ mid _ _ _ h hs,hf=>.cons _ _ _ _ _ (h.frame fun i h1 h2=>hf i h1 (by have:=hs.le;omega)) (hs.frame fun i h1 h2=>hf i (by have:=h.lt;omega) h2)
end
def qP (P:List Nd) (lo hi:Nat):List Int:=(List.range' lo (hi - lo)).flatMap fun i=>(nd P i).kids
theorem T7 (P:List Nd) {lo mid hi:Nat} (h1:lo≤mid) (h2:mid≤hi):qP P lo hi=qP P lo mid++qP P mid hi:=by
  unfold qP
  rw[← qU]
  congr 1
  have:=List.range'_append (s:=lo) (m:=mid - lo) (n:=hi - mid) (step:=1)
  simp only[pX] at this
  rw[show lo+(mid - lo)=mid by omega,show mid - lo+(hi - mid)=hi - lo by omega] at this
  exact this.symm
theorem T8 (P:List Nd) (lo:Nat):qP P lo (lo+1)=(nd P lo).kids:=by
  unfold qP
  rw[show lo+1 - lo=1 by omega]
  simp
theorem ac1 (P:List Nd) (lo:Nat):qP P lo lo=[]:=by unfold qP;rw[j8];rfl
mutual
theorem jo.count {m:aj} {P:List Nd} {Q:List Int→Prop} {lo hi:Nat} {ab:List Int}:jo m P Q lo hi ab→∀ j:Nat,(qP P lo hi).count (j:Int)=if lo<j∧j<hi then 1 else 0
  | .leaf lo _ l h _ _ _ _,j=>by
    rw[T8,h,if_neg (by omega)];rfl
  | .node lo hi _ c ks h _ _ _ hs,j=>by
    have hle:=hs.le
    rw[T7 P (Nat.le_succ lo) hle,T8,h,JV]
    have:=hs.count j
    dsimp only
    rw[this]
    by_cases h1:lo<j∧j<hi
    · rw[if_pos (by omega),if_pos h1]
    · rw[if_neg (by omega),if_neg h1]
theorem jq.count {m:aj} {P:List Nd} {Q:List Int→Prop} {lo hi:Nat} {ab ks:List Int}:jq m P Q lo hi ab ks→∀ j:Nat,ks.count (j:Int)+(qP P lo hi).count (j:Int)=if lo≤j∧j<hi then 1 else 0
  | .nil lo _,j=>by rw[ac1,if_neg (by omega)];rfl
  | .cons lo mid hi _ ks h hs,j=>by
    have bw:=h.lt
    have hle:=hs.le
    rw[T7 P (Nat.le_of_lt bw) hle,JV,List.count_cons]
    have h1:=h.count j
    have h2:=hs.count j
    have hb:((lo:Int) == (j:Int))=decide (lo=j):=by rw[Bool.eq_iff_iff,beq_iff_eq,decide_eq_true_eq];omega
    rw[h1,hb]
    by_cases e:lo=j
    · subst e
      rw[if_neg (by omega)] at h2
      simp only[decide_true,if_true]
      rw[if_neg (by omega),if_pos (by omega)]
      omega
    · simp only[decide_eq_false e,Bool.false_eq_true,if_false]
      by_cases h3:lo<j∧j<mid
      · rw[if_pos h3,if_pos (by omega)]
        rw[if_neg (by omega)] at h2
        omega
      · rw[if_neg h3]
        by_cases h4:mid≤j∧j<hi
        · rw[if_pos h4] at h2
          rw[if_pos (by omega)];omega
        · rw[if_neg h4] at h2
          rw[if_neg (by omega)];omega
end
mutual
theorem jo.zq {m:aj} {P:List Nd} {Q:List Int→Prop} {lo hi:Nat} {ab:List Int}:jo m P Q lo hi ab→∀ i,lo≤i→i<hi→ni m (nd P i)=true∧∀ k∈(nd P i).kids,(i:Int)<k∧k<hi
  | .leaf lo _ l h _ _ _ _,i,h1,h2=>by
    obtain rfl:i=lo:=by omega
    rw[h]
    exact⟨rfl,fun k hk=>by cases hk⟩
  | .node lo hi _ c ks h hc _ hk hs,i,h1,h2=>by
    by_cases e:i=lo
    · subst e
      rw[h]
      refine⟨?_,fun k iX=>?_⟩
      · unfold ni
        rw[if_neg (by show ¬((c:Int) = -1);omega),decide_eq_true_eq]
        exact⟨by show (0:Int)≤c;omega,by show (c:Int)<_;omega,by show ks.length=_;rw[gD];exact hk,rfl,rfl,rfl⟩
      · have:=hs.T9 k iX
        omega
    · exact hs.zq i (by omega) h2
theorem jq.zq {m:aj} {P:List Nd} {Q:List Int→Prop} {lo hi:Nat} {ab ks:List Int}:jq m P Q lo hi ab ks→∀ i,lo≤i→i<hi→ni m (nd P i)=true∧∀ k∈(nd P i).kids,(i:Int)<k∧k<hi
  | .nil lo _,i,h1,h2=>by omega
  | .cons lo mid hi _ ks h hs,i,h1,h2=>by
    have hle:=hs.le
    by_cases e:i<mid
    · obtain ⟨a,b⟩:=h.zq i h1 e
      exact⟨a,fun k hk=>by have:=b k hk;omega⟩
    · exact hs.zq i (by omega) h2
theorem jq.T9 {m:aj} {P:List Nd} {Q:List Int→Prop} {lo hi:Nat} {ab ks:List Int}:jq m P Q lo hi ab ks→∀ k∈ks,(lo:Int)≤k∧k<hi
  | .nil lo _,k,hk=>by cases hk
  | .cons lo mid hi _ ks h hs,k,hk=>by
    have bw:=h.lt
    have hle:=hs.le
    rcases cu.1 hk with rfl | hk
    · omega
    · have:=hs.T9 k hk;omega
end
mutual
theorem jo.flat {m:aj} {P:List Nd} {Q:List Int→Prop} {lo hi:Nat} {ab:List Int}:jo m P Q lo hi ab→∀ i,lo≤i→i<hi→(nd P i).eU.length≤2000∧(nd P i).dt=[]∧(nd P i).cells=[]
  | .leaf lo _ l h hl _ _ _,i,h1,h2=>by
    obtain rfl:i=lo:=by omega
    rw[h]
    exact⟨hl,rfl,rfl⟩
  | .node lo hi _ c ks h hc _ hk hs,i,h1,h2=>by
    by_cases e:i=lo
    · subst e
      rw[h]
      exact⟨aM _,rfl,rfl⟩
    · exact hs.flat i (by omega) h2
theorem jq.flat {m:aj} {P:List Nd} {Q:List Int→Prop} {lo hi:Nat} {ab ks:List Int}:jq m P Q lo hi ab ks→∀ i,lo≤i→i<hi→(nd P i).eU.length≤2000∧(nd P i).dt=[]∧(nd P i).cells=[]
  | .nil lo _,i,h1,h2=>by omega
  | .cons lo mid hi _ ks h hs,i,h1,h2=>by
    have hle:=hs.le
    by_cases e:i<mid
    · exact h.flat i h1 e
    · exact hs.flat i (by omega) h2
end
theorem ac2 (P:List Nd):qP P 0 P.length=iW P:=by
  unfold qP iW
  rw[uL,← List.range_eq_range']
  have:∀ n,n≤P.length→(aN n).flatMap (fun i=>(nd P i).kids)=(P.take n).flatMap (·.kids):=by
    intro n
    induction n with
    | zero=>intro _;rfl
    | succ n ih =>
      intro hn
      rw[List.range_succ,qU,ih (by omega),iD (by omega),qU,List.flatMap_singleton,List.flatMap_singleton];rfl
  rw[this P.length (aG _),List.take_length]
theorem jo.shaped {m:aj} {P:List Nd} {Q:List Int→Prop} (h:jo m P Q 0 P.length []) (hn:P.length≤20000):lN m P=true:=by
  have bw:=h.lt
  rw[Ta ⟨bw,hn⟩ (fun i hi=>by
    obtain ⟨a,b⟩:=h.zq i (aM _) hi
    show lM m P.length i (nd P i)=true
    unfold lM
    rw[a,Bool.true_and,gU]
    intro k hk
    have:=b k hk
    unfold o8
    rw[decide_eq_true_eq];exact this)]
  rw[Bool.not_eq_true',Fs]
  intro x hx
  unfold jN at hx
  rw[← List.map_drop] at hx
  obtain ⟨j,hj,rfl⟩:=ca.1 hx
  have C7:1≤j∧j<P.length:=by
    obtain ⟨i,hi,rfl⟩:=List.getElem_of_mem hj
    rw[List.length_drop,List.length_range] at hi
    rw[List.getElem_drop,List.getElem_range];omega
  have hc:=h.count j
  rw[ac2,if_pos (by omega)] at hc
  rw[hc];decide
theorem ac3 {m:aj} {left:List (List Bool)} {l:List Mv} (hl:l.length≤2000) (hv:∀ x∈l,o6 m x=true):kR m left l=(nh m left (mK m l (S0 m,T0 m)),0):=by
  unfold kR
  rw[if_neg (by omega),if_neg (by rw[gU.2 hv];simp)]
mutual
theorem jo.Bx {m:aj} {P:List Nd} {Q:List Int→Prop} (hd:Down P) {lo hi:Nat} {ab:List Int}:jo m P Q lo hi ab→hi≤P.length→∀ left,∀ t∈vs P (lo,left,ab),t.2.2.contains (nd P t.1).cls=false∧((nd P t.1).cls = -1→(nd P t.1).dt.length=0∧(kR m t.2.1 (nd P t.1).eU).2=0)
  | .leaf lo ab l h hl hv ha _,hh,left,t,ht=>by
    rw[Iy hd (by show lo<_;omega) (by show (nd P lo).kids=[];rw[h];rfl),eM] at ht
    subst ht
    dsimp only
    rw[h]
    refine⟨?_,fun _=>⟨rfl,by show (kR m left l).2=0;rw[ac3 hl hv]⟩⟩
    show ab.contains (-1)=false
    rw[Cc]
    intro hc
    exact ha (tB.1 hc)
  | .node lo hi ab c ks h hc ha hk hs,hh,left,t,ht=>by
    have hle:=hs.le
    rw[zl hd (by show lo<_;omega),cu] at ht
    rcases ht with rfl | ht
    · dsimp only
      rw[h]
      refine⟨?_,fun h2=>absurd (show (c:Int) = -1 from h2) (by omega)⟩
      rw[Cc]
      intro hc
      exact ha (tB.1 hc)
    · obtain ⟨u,hu,ht⟩:=Fv.1 ht
      obtain ⟨o,ho,rfl⟩:=xk (wi.1 hu)
      dsimp only at ho
      have pT:mM P (lo,left,ab) o=((ks.getD o 0).toNat,bT left c o,ab++[(c:Int)]):=by
        unfold mM
        dsimp only
        rw[h];rfl
      rw[pT] at ht
      rw[h] at ho
      exact hs.Bx hd hh o ho _ t ht
theorem jq.Bx {m:aj} {P:List Nd} {Q:List Int→Prop} (hd:Down P) {lo hi:Nat} {ab ks:List Int}:jq m P Q lo hi ab ks→hi≤P.length→∀ o,o<ks.length→∀ left,∀ t∈vs P ((ks.getD o 0).toNat,left,ab),t.2.2.contains (nd P t.1).cls=false∧((nd P t.1).cls = -1→(nd P t.1).dt.length=0∧(kR m t.2.1 (nd P t.1).eU).2=0)
  | .nil _ _,_,o,ho,_,_,_=>by cases ho
  | .cons lo mid hi ab ks h hs,hh,o,ho,left,t,ht=>by
    have hle:=hs.le
    cases o with
    | zero =>
      rw[gb,gD] at ht
      exact h.Bx hd (by omega) left t ht
    | succ o =>
      rw[eJ] at ht
      exact hs.Bx hd hh o (by simpa using ho) left t ht
end
mutual
theorem jo.leaves {m:aj} {P:List Nd} {Q:List Int→Prop} (hd:Down P) {lo hi:Nat} {ab:List Int}:jo m P Q lo hi ab→hi≤P.length→∀ left,∀ t∈vs P (lo,left,ab),(nd P t.1).cls = -1→Q t.2.2
  | .leaf lo ab l h hl hv ha hq,hh,left,t,ht,_=>by
    rw[Iy hd (by show lo<_;omega) (by show (nd P lo).kids=[];rw[h];rfl),eM] at ht
    subst ht
    exact hq
  | .node lo hi ab c ks h hc ha hk hs,hh,left,t,ht,cE=>by
    have hle:=hs.le
    rw[zl hd (by show lo<_;omega),cu] at ht
    rcases ht with rfl | ht
    · dsimp only at cE
      rw[h] at cE
      exact absurd (show (c:Int) = -1 from cE) (by omega)
    · obtain ⟨u,hu,ht⟩:=Fv.1 ht
      obtain ⟨o,ho,rfl⟩:=xk (wi.1 hu)
      dsimp only at ho
      have pT:mM P (lo,left,ab) o=((ks.getD o 0).toNat,bT left c o,ab++[(c:Int)]):=by
        unfold mM
        dsimp only
        rw[h];rfl
      rw[pT] at ht
      rw[h] at ho
      exact hs.leaves hd hh o ho _ t ht cE
theorem jq.leaves {m:aj} {P:List Nd} {Q:List Int→Prop} (hd:Down P) {lo hi:Nat} {ab ks:List Int}:jq m P Q lo hi ab ks→hi≤P.length→∀ o,o<ks.length→∀ left,∀ t∈vs P ((ks.getD o 0).toNat,left,ab),(nd P t.1).cls = -1→Q t.2.2
  | .nil _ _,_,o,ho,_,_,_,_=>by cases ho
  | .cons lo mid hi ab ks h hs,hh,o,ho,left,t,ht,cE=>by
    have hle:=hs.le
    cases o with
    | zero =>
      rw[gb,gD] at ht
      exact h.leaves hd (by omega) left t ht cE
    | succ o =>
      rw[eJ] at ht
      exact hs.leaves hd hh o (by simpa using ho) left t ht cE
end
theorem jo.ec {m:aj} {P:List Nd} {Q:List Int→Prop} (hm:VM m) (h:jo m P Q 0 P.length []) (hn:P.length≤20000) :∃n,l9 m P=(n,true)∧∀ a,a≤1099511627776→(∀ s∈vs P (root m),(nd P s.1).cls = -1→a≤(kR m s.2.1 (nd P s.1).eU).1)→a≤n:=by
  have hs:=h.shaped hn
  exact ac4 hm hs fun s iK=>h.Bx (Ev hs) (aG _) (dD m) s iK
end T
namespace T
def Iz (w:Nat):Nat→Nat
  | 0=>1
  | s+1=>1+w * Iz w s
structure af0 (m:aj) (L:List Int) (w:Nat) (s:Nat) (ab:List Int) (nodes:List Nd) (r:List Nd × Nat):Prop where
  k:r.2≤L.length
  lt:nodes.length<r.1.length
  le:r.1.length≤nodes.length+Iz w s
  pre:∀ i,i<nodes.length→nd r.1 i=nd nodes i
  vQ:jo m r.1 (fun _=>True) nodes.length r.1.length ab
theorem T' {P:List Nd} {x:Nd} {i:Nat} (h:i<P.length):nd (P++[x]) i=nd P i:=by
  unfold nd
  rw[aA,cn h,aA]
theorem ac5 {P:List Nd} {x:Nd}:nd (P++[x]) P.length=x:=by
  unfold nd
  rw[aA,eK (aG _)];simp
theorem Ua {P:List Nd} {x:Nd} {i j:Nat} (h:j<P.length):nd (P.set j x) i=if i=j then x else nd P i:=by
  unfold nd
  rw[aA,b6]
  by_cases e:j=i
  · subst e;rw[if_pos rfl,if_pos h,if_pos rfl];rfl
  · rw[if_neg e,if_neg (Ne.symm e),aA]
end T
namespace T
def upto (n:Nat):List Int:=(aN n).map fun (j:Nat)=>(j:Int)
structure af1 (m:aj) (w d:Nat) (nodes r:List Nd):Prop where
  lt:nodes.length<r.length
  le:r.length≤nodes.length+Iz w d
  pre:∀ i,i<nodes.length→nd r i=nd nodes i
  vQ:jo m r (fun ab=>ab=upto m.cls.length) nodes.length r.length (upto (m.cls.length - d))
theorem Ub {w o:Nat} (h:o<w) (j:Nat):(lI w o).getD j false=decide (j=o):=by
  unfold lI
  rw[aA,b6,List.length_replicate]
  by_cases e:o=j
  · subst e;rw[if_pos rfl,if_pos h,decide_eq_true rfl];rfl
  · rw[if_neg e,uM,decide_eq_false (Ne.symm e)]
    split<;>rfl
end T
namespace T
def Ez (left:List (List Bool)):Nat→Nat→Nat
  | 0,c=>c
  | f+1,c=>if c<left.length∧(left.getD c default).length=1 then Ez left f (c+1) else c
def cJ (left:List (List Bool)) (c:Nat):Nat:=Ez left (left.length - c) c
theorem IA {left:List (List Bool)} {c:Nat} (h:c<left.length∧(left.getD c default).length=1):cJ left c=cJ left (c+1):=by
  unfold cJ
  rw[show left.length - c=(left.length - (c+1))+1 by omega,Ez,if_pos h]
theorem EA {left:List (List Bool)} {c:Nat} (h:¬(c<left.length∧(left.getD c default).length=1)):cJ left c=c:=by
  unfold cJ
  cases left.length - c with
  | zero=>rfl
  | succ f=>rw[Ez,if_neg h]
theorem xo {left:List (List Bool)}:∀ (k c:Nat),left.length - c=k→c≤cJ left c∧(c≤left.length→cJ left c≤left.length)∧(∀ j,c≤j→j<cJ left c→j<left.length∧(left.getD j default).length=1)∧(cJ left c<left.length→(left.getD (cJ left c) default).length≠1)
  | k,c,hk=>by
    by_cases h:c<left.length∧(left.getD c default).length=1
    · rw[IA h]
      obtain ⟨a,b,d,e⟩:=xo (left:=left) (k - 1) (c+1) (by omega)
      refine⟨by omega,fun _=>b (by omega),fun j h1 h2=>?_,e⟩
      by_cases e2:j=c
      · subst e2;exact h
      · exact d j (by omega) h2
    · rw[EA h]
      exact⟨aG _,fun h=>h,fun j h1 h2=>by omega,fun h1 h2=>h ⟨h1,h2⟩⟩
termination_by k c _=>left.length - c
def qD:List Bool→Int→Int
  | [],_=>-1
  | b::r,i=>if b=true then i else qD r (i+1)
def iQ (left:List (List Bool)):List Int:=left.map fun l=>qD l 0
structure DS where
  nodes:List Nd
  room:Int
  spl:Int
  whole:Bool
  plan:List Int
  aX:Int
  b9:Int
def fA (f:List (List Bool)→DS→DS) (left:List (List Bool)) (c:Nat):Nat→Nat→DS→List Int→DS × List Int
  | 0,_,s,ks=>(s,ks)
  | w+1,o,s,ks=>fA f left c w (o+1) (f (bT left c o) s) (ks++[(s.nodes.length:Int)])
def j3 (left:List (List Bool)) (c:Nat) (v:Int) (s:DS):DS:=⟨s.nodes++[lp []],s.room - (left.getD c default).length,s.spl - 1,s.whole,s.plan,s.aX,s.b9⟩
def tu (c j:Nat) (r:DS × List Int):DS:={ r.1 with nodes:=r.1.nodes.set j ⟨(c:Int),r.2,[],[],[]⟩ }
def j4 (m:aj):Nat→Nat→List (List Bool)→DS→DS
  | 0,_,_,s=>s
  | f+1,c,left,s =>
    if s.aX≤dN m left then { s with nodes:=s.nodes++[lp []],b9:=min s.b9 (dN m left) }
    else if cJ left c=left.length then { s with nodes:=s.nodes++[lp []],plan:=iQ left,aX:=dN m left,b9:=min s.b9 (dN m left) }
    else if s.spl=0∨s.room<(left.getD (cJ left c) default).length then { s with nodes:=s.nodes++[lp []],whole:=false,b9:=min s.b9 (dN m left) }
    else tu (cJ left c) s.nodes.length (fA (j4 m f (cJ left c+1)) left (cJ left c) (left.getD (cJ left c) default).length 0 (j3 left (cJ left c) (dN m left) s) [])
def fM (m:aj) (p:List Int):Int:=iF (gQ m p) 0
def nW (f:List Int→List Int × Int) (p:List Int):Nat→Nat→List Int × Int→List Int × Int
  | 0,_,a=>a
  | w+1,k,a=>nW f p w (k+1) (if (f (p++[(k:Int)])).2<a.2 then f (p++[(k:Int)]) else a)
def eD (m:aj):Nat→List Int→List Int × Int
  | 0,p=>if 1099511627776≤fM m p then ([],1099511627776) else (p,fM m p)
  | d+1,p=>nW (eD m d) p (m.cls.getD p.length default).length 0 ([],1099511627776)
def pd (f:List Int→List Int × Int→List Int × Int) (p:List Int):Nat→Nat→List Int × Int→List Int × Int
  | 0,_,a=>a
  | w+1,k,a=>pd f p w (k+1) (f (p++[(k:Int)]) a)
def jE (m:aj):Nat→List Int→List Int × Int→List Int × Int
  | 0,p,a=>if fM m p<a.2 then (p,fM m p) else a
  | d+1,p,a=>pd (jE m d) p (m.cls.getD p.length default).length 0 a
theorem Uc {f:List Int→List Int × Int} {g:List Int→List Int × Int→List Int × Int} (p:List Int) (hg:∀ q a,a.2≤1099511627776→g q a=if (f q).2<a.2 then f q else a):∀ (w k:Nat) (a b:List Int × Int),b.2≤1099511627776 →
    pd g p w k (if b.2<a.2 then b else a)=(if (nW f p w k b).2<a.2 then nW f p w k b else a)∨1099511627776<a.2
  | 0,k,a,b,hb=>.inl rfl
  | w+1,k,a,b,hb=>by
    by_cases ha:1099511627776<a.2
    · exact .inr ha
    rw[pd,nW,hg _ _ (by split<;>omega)]
    have h1:(if (f (p++[(k:Int)])).2<(if b.2<a.2 then b else a).2 then f (p++[(k:Int)]) else if b.2<a.2 then b else a)=(if (if (f (p++[(k:Int)])).2<b.2 then f (p++[(k:Int)]) else b).2<a.2 then (if (f (p++[(k:Int)])).2<b.2 then f (p++[(k:Int)]) else b) else a):=by
      generalize f (p++[(k:Int)])=x
      by_cases c1:b.2<a.2
      · rw[if_pos c1]
        by_cases c2:x.2<b.2
        · rw[if_pos c2,if_pos (by omega)]
        · rw[if_neg c2,if_pos c1]
      · rw[if_neg c1]
        by_cases c2:x.2<b.2
        · rw[if_pos c2]
        · rw[if_neg c2,if_neg c1,if_neg (by omega)]
    rw[h1]
    exact Uc p hg w (k+1) a _ (by split<;>omega)
theorem Ud {f:List Int→List Int × Int} (p:List Int):∀ (w k:Nat) (a:List Int × Int),(nW f p w k a).2≤a.2
  | 0,k,a=>dE _
  | w+1,k,a=>by
    rw[nW]
    refine pk (Ud p w (k+1) _) ?_
    split<;>omega
theorem Ue (m:aj):∀ (d:Nat) (p:List Int),(eD m d p).2≤1099511627776
  | 0,p=>by unfold eD;split<;>(dsimp only;omega)
  | d+1,p=>Ud p _ _ _
theorem IB (m:aj):∀ (d:Nat) (p:List Int) (a:List Int × Int),a.2≤1099511627776→jE m d p a=if (eD m d p).2<a.2 then eD m d p else a
  | 0,p,a,ha=>by
    unfold jE eD
    by_cases h:1099511627776≤fM m p
    · rw[if_pos h,if_neg (by omega),if_neg (by dsimp only;omega)]
    · rw[if_neg h]
  | d+1,p,a,ha=>by
    unfold jE eD
    have h:=(Uc p (fun q b hb=>IB m d q b hb) (m.cls.getD p.length default).length 0 a ([],1099511627776) (dE _)).resolve_right (by omega)
    rw[if_neg (by dsimp only;omega)] at h
    exact h
def Ext (m:aj) (p q:List Int):Prop:=FP m q∧∃ r,q=p++r
theorem Uf {f:List Int→List Int × Int→List Int × Int} {p:List Int} {a:List Int × Int}:∀ (w k:Nat),(∀ j,k≤j→j<k+w→f (p++[(j:Int)]) a=a)→pd f p w k a=a
  | 0,k,h=>rfl
  | w+1,k,h=>by rw[pd,h k (aG _) (by omega)];exact Uf w (k+1) fun j h1 h2=>h j (by omega) (by omega)
structure BP (m:aj) (p:List Int):Prop where
  len:p.length≤m.cls.length
  get:∀ j,j<p.length→0≤p.getD j 0∧p.getD j 0<(m.cls.getD j default).length
theorem EB {p q:List Int} {j:Nat} (h:j<p.length):(p++q).getD j 0=p.getD j 0:=by
  rw[aA,cn h,← aA]
theorem IC {p:List Int} {x:Int}:(p++[x]).getD p.length 0=x:=by
  rw[aA,eK (aG _),j8];rfl
theorem BP.snoc {m:aj} {p:List Int} (h:BP m p) {k:Nat} (h1:p.length<m.cls.length) (hk:k<(m.cls.getD p.length default).length):BP m (p++[(k:Int)]):=⟨by rw[bV];exact h1,fun j hj=>by
  rw[bV] at hj
  by_cases e:j<p.length
  · rw[EB e];exact h.get j e
  · obtain rfl:j=p.length:=by simp at hj;omega
    rw[IC];omega⟩
theorem BP.fp {m:aj} {p:List Int} (h:BP m p) (hl:p.length=m.cls.length):FP m p:=⟨hl,fun j hj=>fZ.2 (by
  have:=h.get j hj
  rw[gD]
  omega)⟩
theorem Ug {m:aj}:∀ (d:Nat) (p:List Int) (a:List Int × Int),BP m p→p.length+d=m.cls.length→(∀ q,Ext m p q→a.2≤fM m q)→jE m d p a=a
  | 0,p,a,hp,hd,h=>by
    have:=h p ⟨hp.fp (by omega),[],by simp⟩
    unfold jE
    rw[if_neg (by omega)]
  | d+1,p,a,hp,hd,h=>by
    unfold jE
    refine Uf _ _ fun j _ hj=>?_
    refine Ug d _ a (hp.snoc (by omega) (by omega)) (by rw[bV];simp;omega) fun q hq=>h q ⟨hq.1,?_⟩
    obtain ⟨r,rfl⟩:=hq.2
    exact⟨(j:Int)::r,by simp⟩
end T
namespace T
def tv (m:aj) (left:List (List Bool)):Int:=nh m left (S0 m,T0 m)
mutual
inductive Tr (m:aj) (P:List Nd):Nat→Nat→List (List Bool)→List Int→List Int→Prop
  | leaf (lo:Nat) (left:List (List Bool)) (ab:List Int) (h:nd P lo=lp []) (ha:(-1:Int) ∉ ab):Tr m P lo (lo+1) left ab [tv m left]
  | node (lo hi:Nat) (left:List (List Bool)) (ab:List Int) (c:Nat) (ks vs:List Int) (h:nd P lo=⟨c,ks,[],[],[]⟩) (hc:c<m.cls.length) (ha:(c:Int) ∉ ab) (hk:ks.length=(m.cls.getD c default).length) (hs:j5 m P (lo+1) hi left c (ab++[(c:Int)]) 0 ks vs):Tr m P lo hi left ab vs
inductive j5 (m:aj) (P:List Nd):Nat→Nat→List (List Bool)→Nat→List Int→Nat→List Int→List Int→Prop
  | nil (lo:Nat) (left:List (List Bool)) (c:Nat) (ab:List Int) (o:Nat):j5 m P lo lo left c ab o [] []
  | cons (lo mid hi:Nat) (left:List (List Bool)) (c:Nat) (ab:List Int) (o:Nat) (ks v vs:List Int) (h:Tr m P lo mid (bT left c o) ab v) (hs:j5 m P mid hi left c ab (o+1) ks vs):j5 m P lo hi left c ab o ((lo:Int)::ks) (v++vs)
end
variable {m:aj} {P P':List Nd} {lo mid hi c o:Nat} {left:List (List Bool)} {ab ks v w:List Int}
theorem j5.snoc (h2:Tr m P mid hi (bT left c (o+ks.length)) ab w) (h:j5 m P lo mid left c ab o ks v):j5 m P lo hi left c ab o (ks++[(mid:Int)]) (v++w):=by
  induction ks generalizing lo o v with
  | nil =>
    cases h
    have:=j5.cons _ _ _ left c ab o [] w [] h2 (.nil _ _ _ _ _)
    simpa using this
  | cons k ks ih =>
    cases h with
    | cons _ ac0 _ _ _ _ _ _ v1 vs h1 hs =>
      rw[dI]
      exact .cons _ _ _ _ _ _ _ _ _ _ h1 (ih (by rw[List.length_cons] at h2;rwa [show o+1+ks.length=o+(ks.length+1) by omega]) hs)
mutual
theorem Tr.vQ {lo hi:Nat} {left:List (List Bool)} {ab v:List Int}:Tr m P lo hi left ab v→jo m P (fun _=>True) lo hi ab
  | .leaf _ _ _ h ha=>.leaf _ _ [] h (aM _) (fun _ h=>by cases h) ha trivial
  | .node _ _ _ _ c ks _ h hc ha hk hs=>.node _ _ _ c ks h hc ha hk hs.zr
theorem j5.zr {lo hi c o:Nat} {left:List (List Bool)} {ab ks v:List Int}:j5 m P lo hi left c ab o ks v→jq m P (fun _=>True) lo hi ab ks
  | .nil _ _ _ _ _=>.nil _ _
  | .cons _ mid _ _ _ _ _ _ _ _ h hs=>.cons _ mid _ _ _ h.vQ hs.zr
end
mutual
theorem Tr.frame {lo hi:Nat} {left:List (List Bool)} {ab v:List Int}:Tr m P lo hi left ab v→(∀ i,lo≤i→i<hi→nd P' i=nd P i)→Tr m P' lo hi left ab v
  | .leaf _ _ _ h ha,hf=>.leaf _ _ _ ((hf _ (aG _) (ny _)).trans h) ha
  | .node _ _ _ _ c ks _ h hc ha hk hs,hf=>.node _ _ _ _ c ks _ ((hf _ (aG _) (by have:=hs.zr.le;omega)).trans h) hc ha hk (hs.frame fun i h1 h2=>hf i (by omega) h2)
theorem j5.frame {lo hi c o:Nat} {left:List (List Bool)} {ab ks v:List Int}:j5 m P lo hi left c ab o ks v→(∀ i,lo≤i→i<hi→nd P' i=nd P i)→j5 m P' lo hi left c ab o ks v
  | .nil _ _ _ _ _,_=>.nil _ _ _ _ _
  | .cons _ mid _ _ _ _ _ _ _ _ h hs,hf=>.cons _ mid _ _ _ _ _ _ _ _ (h.frame fun i h1 h2=>hf i h1 (by have:=hs.zr.le;omega)) (hs.frame fun i h1 h2=>hf i (by have:=h.vQ.lt;omega) h2)
end
def By (m:aj) (P:List Nd) (t:eh) (x:Int):Prop:=(nd P t.1).cls = -1∧(nd P t.1).eU=[]∧(nd P t.1).dt=[]∧tv m t.2.1=x
mutual
theorem Tr.leaves {lo hi:Nat} {left:List (List Bool)} {ab v:List Int} (hd:Down P):Tr m P lo hi left ab v→hi≤P.length→(∀ t∈vs P (lo,left,ab),(nd P t.1).cls = -1→∃ x∈v,By m P t x)∧∀ x∈v,∃ t∈vs P (lo,left,ab),By m P t x
  | .leaf lo left ab h ha,hh=>by
    rw[Iy hd (by show lo<_;omega) (by show (nd P lo).kids=[];rw[h];rfl)]
    have hl:By m P (lo,left,ab) (tv m left):=⟨by show (nd P lo).cls = -1;rw[h];rfl,by show (nd P lo).eU=[];rw[h];rfl,by show (nd P lo).dt=[];rw[h];rfl,rfl⟩
    constructor
    · intro t ht _
      rw[eM] at ht
      subst ht
      exact⟨_,by simp,hl⟩
    · intro x hx
      rw[eM] at hx
      subst hx
      exact⟨_,by simp,hl⟩
  | .node lo hi left ab c ks vl h hc ha hk hs,hh=>by
    have hle:=hs.zr.le
    obtain ⟨i1,i2⟩:=hs.leaves hd hh
    have pT:∀ o,mM P (lo,left,ab) o=((ks.getD o 0).toNat,bT left c o,ab++[(c:Int)]):=fun o=>by
      unfold mM
      dsimp only
      rw[h];rfl
    have cw:(nd P lo).kids=ks:=by rw[h]
    rw[zl hd (by show lo<_;omega)]
    constructor
    · intro t ht cE
      rw[cu] at ht
      rcases ht with rfl | ht
      · dsimp only at cE
        rw[h] at cE
        exact absurd (show (c:Int) = -1 from cE) (by omega)
      · obtain ⟨u,hu,ht⟩:=Fv.1 ht
        obtain ⟨o,ho,rfl⟩:=xk (wi.1 hu)
        dsimp only at ho
        rw[cw] at ho
        rw[pT] at ht
        rw[← fi o] at ht
        exact i1 o ho t (by simpa using ht) cE
    · intro x hx
      obtain ⟨o,ho,t,ht,hl⟩:=i2 x hx
      rw[fi] at ht
      refine⟨t,List.mem_cons_of_mem _ (Fv.2 ⟨mM P (lo,left,ab) o,wi.2 ?_,by rw[pT];exact ht⟩),hl⟩
      unfold qN iI
      exact ca.2 ⟨o,lP.2 (by show o<(nd P lo).kids.length;rw[cw];exact ho),rfl⟩
theorem j5.leaves {lo hi c o:Nat} {left:List (List Bool)} {ab ks v:List Int} (hd:Down P):j5 m P lo hi left c ab o ks v→hi≤P.length→(∀ i,i<ks.length→∀ t∈vs P ((ks.getD i 0).toNat,bT left c (o+i),ab),(nd P t.1).cls = -1→∃ x∈v,By m P t x)∧∀ x∈v,∃ i,i<ks.length∧∃ t∈vs P ((ks.getD i 0).toNat,bT left c (o+i),ab),By m P t x
  | .nil _ _ _ _ _,_=>⟨fun i hi=>(by cases hi),fun x hx=>(by cases hx)⟩
  | .cons lo mid hi left c ab o ks v w h hs,hh=>by
    have hle:=hs.zr.le
    obtain ⟨a1,a2⟩:=h.leaves hd (by omega)
    obtain ⟨b1,b2⟩:=hs.leaves hd hh
    constructor
    · intro i hi t ht cE
      cases i with
      | zero =>
        rw[gb,gD] at ht
        obtain ⟨x,hx,hl⟩:=a1 t ht cE
        exact⟨x,List.mem_append_left _ hx,hl⟩
      | succ i =>
        rw[eJ,show o+(i+1)=o+1+i by omega] at ht
        obtain ⟨x,hx,hl⟩:=b1 i (by simpa using hi) t ht cE
        exact⟨x,List.mem_append_right _ hx,hl⟩
    · intro x hx
      rcases cr.1 hx with hx | hx
      · obtain ⟨t,ht,hl⟩:=a2 x hx
        exact⟨0,by simp,t,by rw[gb,gD];exact ht,hl⟩
      · obtain ⟨i,hi,t,ht,hl⟩:=b2 x hx
        exact⟨i+1,by simpa using hi,t,by rw[eJ,show o+(i+1)=o+1+i by omega];exact ht,hl⟩
end
def lq (l:List Int) (b:Int):Int:=l.foldl min b
theorem EC:∀ (l:List Int) (b:Int),lq l b≤b∧(∀ x∈l,lq l b≤x)∧(lq l b=b∨lq l b∈l)
  | [],b=>⟨dE _,fun _ h=>(by cases h),.inl rfl⟩
  | x::l,b=>by
    obtain ⟨h1,h2,h3⟩:=EC l (min b x)
    have e:lq (x::l) b=lq l (min b x):=rfl
    rw[e]
    refine⟨by omega,fun y hy=>?_,?_⟩
    · rcases cu.1 hy with rfl | hy
      · omega
      · exact h2 y hy
    · rcases h3 with h3 | h3
      · rcases Int.le_total b x with hb | hb
        · left;rw[h3];omega
        · right;rw[h3,Int.min_eq_right hb];simp
      · right;simp[h3]
theorem ac6 (l k:List Int) (b:Int):lq (l++k) b=lq k (lq l b):=List.foldl_append
theorem Tr.ec (hm:VM m) {v:List Int} (h:Tr m P 0 P.length (dD m) [] v) (hn:P.length≤20000):l9 m P=(lq v 1099511627776,true):=by
  have zs:=h.vQ.shaped hn
  have hd:=Ev zs
  obtain ⟨n,h1,h2⟩:=h.vQ.ec hm hn
  obtain ⟨l1,l2⟩:=h.leaves hd (aG _)
  obtain ⟨_,_,hr⟩:=Uh h1
  obtain ⟨q1,q2⟩:=Ui hr
  obtain ⟨m1,m2,m3⟩:=EC v 1099511627776
  have e1:lq v 1099511627776≤n:=h2 _ m1 fun s hs cE=>by
    obtain ⟨x,hx,_,ID,_,hv⟩:=l1 s hs cE
    rw[ID,Uj]
    have:=m2 x hx
    unfold tv at hv
    dsimp only
    omega
  have e2:n≤lq v 1099511627776:=by
    rcases m3 with e | e
    · omega
    · obtain ⟨t,ht,cE,ID,hgr,hv⟩:=l2 _ e
      have:=(q2 t ht).2 cE
      rw[hgr,if_neg (by simp),ID,Uj] at this
      unfold tv at hv
      dsimp only at this
      omega
  rw[h1,show n=lq v 1099511627776 by omega]
end T
namespace T
theorem ac8 (m:aj) (left:List (List Bool)):dN m left≤1099511627776:=by
  unfold dN zc
  split<;>omega
structure Dn (m:aj) (left:List (List Bool)) (p:List Int):Prop where
  fit:eG m left
  bp:BP m p
  one:∀ j,j<p.length→left.getD j default=lI (m.cls.getD j default).length (p.getD j 0).toNat
  all:∀ j,p.length≤j→j<m.cls.length→left.getD j default=List.replicate (m.cls.getD j default).length true
variable {m:aj} {left:List (List Bool)} {p:List Int}
theorem Dn.root (hm:VM m):Dn m (dD m) []:=by
  refine⟨Ew hm,⟨aM _,fun j hj=>(by cases hj)⟩,fun j hj=>(by cases hj),fun j _ hj=>?_⟩
  unfold dD mL
  rw[if_pos (eB.2 hm),iG _ _ _ hj]
theorem Uk {left:List (List Bool)} {c j:Nat} (x:List Bool) (h:c≠j):(left.set c x).getD j default=left.getD j default:=by
  rw[aA,List.getElem?_set_ne h,← aA]
theorem Dn.next (h:Dn m left p) (hc:p.length<m.cls.length) {k:Nat} (hk:k<(m.cls.getD p.length default).length):Dn m (bT left p.length k) (p++[(k:Int)]):=by
  refine⟨Ij h.fit (He _ _ _),h.bp.snoc hc hk,fun j hj=>?_,fun j h1 h2=>?_⟩
  · unfold bT
    rw[bV] at hj
    by_cases e:j<p.length
    · rw[Uk _ (by omega),EB e];exact h.one j e
    · obtain rfl:j=p.length:=by simp at hj;omega
      rw[Tu _ _ _ (by rw[h.fit.1];exact hc),IC,h.fit.2 _ (by rw[h.fit.1];exact hc)];rfl
  · unfold bT
    rw[bV] at h1
    rw[Uk _ (by simp at h1;omega)]
    exact h.all j (by omega) h2
theorem Dn.single (h:Dn m left p) (hc:p.length<left.length) (h1:(left.getD p.length default).length=1):Dn m left (p++[0]):=by
  have ka:p.length<m.cls.length:=by rw[← h.fit.1];exact hc
  have hl:=h.fit.2 _ hc
  refine⟨h.fit,h.bp.snoc (k:=0) ka (by omega),fun j hj=>?_,fun j h2 h3=>h.all j (by rw[bV] at h2;omega) h3⟩
  rw[bV] at hj
  by_cases e:j<p.length
  · rw[EB e];exact h.one j e
  · obtain rfl:j=p.length:=by simp at hj;omega
    rw[IC,h.all _ (aG _) ka,← hl,h1];rfl
theorem Dn.skip:∀ (k:Nat) (p:List Int),left.length - p.length=k→Dn m left p→∃ r:List Int,Dn m left (p++r)∧(p++r).length=cJ left p.length∧∀ a,jE m (m.cls.length - p.length) p a=jE m (m.cls.length - (p++r).length) (p++r) a
  | k,p,hk,h=>by
    by_cases hc:p.length<left.length∧(left.getD p.length default).length=1
    · have h1:=h.single hc.1 hc.2
      obtain ⟨r,a1,a2,a3⟩:=Dn.skip (k - 1) (p++[0]) (by rw[bV];simp;omega) h1
      have e:p++[0]++r=p++(0::r):=by simp
      rw[e] at a1 a2 a3
      refine⟨0::r,a1,?_,fun a=>?_⟩
      · rw[IA hc,a2];simp
      · rw[← a3 a]
        have hl:=h.fit.2 _ hc.1
        have bw:p.length<m.cls.length:=by rw[← h.fit.1];exact hc.1
        rw[show m.cls.length - p.length=(m.cls.length - (p++[0]).length)+1 by simp;omega,jE,← hl,hc.2];rfl
    · exact⟨[],by simpa using h,by rw[EA hc];simp,fun a=>by simp⟩
termination_by k p _ _=>left.length - p.length
decreasing_by simp;omega
theorem Dn.Sz (h:Dn m left p) {q:List Int} (hq:Ext m p q):vM m left q:=fun i hi=>by
  obtain ⟨hf,r,rfl⟩:=hq
  have hg:=fZ.1 (hf.get i (by rw[hf.len];exact hi))
  rw[gD] at hg
  by_cases e:i<p.length
  · have:=h.bp.get i e
    rw[h.one i e,EB e,Ub (by omega),decide_eq_true rfl]
  · rw[h.all i (by omega) hi,aA,uM,if_pos (by omega)];rfl
theorem Ul:∀ (w o:Nat) (i:Int),o<w→qD (lI w o) i=i+o
  | 0,o,i,h=>by omega
  | w+1,0,i,h=>by
    unfold lI
    rw[JP,List.set_cons_zero,qD,if_pos rfl];simp
  | w+1,o+1,i,h=>by
    have:=Ul w o (i+1) (by omega)
    unfold lI at *
    rw[JP,List.set_cons_succ,qD,if_neg (by simp),this];omega
theorem Dn.IE (h:Dn m left p) (hl:p.length=m.cls.length):iQ left=p:=by
  unfold iQ
  apply List.ext_getElem
  · rw[ey,h.fit.1,hl]
  · intro i h1 h2
    rw[List.getElem_map]
    have a1:=h.one i h2
    have a2:=h.bp.get i h2
    have e1:left[i]'(by rw[ey] at h1;exact h1)=left.getD i default:=by
      rw[aA,bX (by rw[ey] at h1;exact h1)];rfl
    have e2:p[i]=p.getD i 0:=by rw[aA,bX h2];rfl
    rw[e1,e2,a1,Ul _ _ _ (by omega)]
    omega
theorem Dn.ac9 (h:Dn m left p) (hl:p.length=m.cls.length):zb m left p:=fun i hi j=>by
  have:=h.bp.get i (by omega)
  rw[h.one i (by omega),Ub (by omega)]
theorem Dn.bound (hm:VM m) (h:Dn m left p) {q:List Int} (hq:Ext m p q):dN m left≤fM m q:=by
  rw[Bb hm h.fit]
  exact SG hm hq.1 left h.fit (h.Sz hq) [] (fun _ h=>by cases h)
theorem Dn.exact (hm:VM m) (h:Dn m left p) (hl:p.length=m.cls.length):dN m left=fM m p:=by
  rw[Bb hm h.fit]
  exact abJ hm (h.bp.fp hl) left h.fit (h.ac9 hl) [] (fun _ h=>by cases h)
structure DL (m:aj) (left:List (List Bool)) (p:List Int) (s r:DS):Prop where
  aX:r.aX≤s.aX
  bl:r.b9≤s.b9
  bt:r.aX<s.aX→r.b9≤r.aX
  wh:r.whole=true→s.whole=true∧(r.plan,r.aX)=jE m (m.cls.length - p.length) p (s.plan,s.aX)∧min s.b9 r.aX≤r.b9
  room:(r.nodes.length:Int)+r.room=s.nodes.length+s.room+1
  rm0:0≤s.room→0≤r.room
  lt:s.nodes.length<r.nodes.length
  pre:∀ i,i<s.nodes.length→nd r.nodes i=nd s.nodes i
  tr:∀ ab:List Int,(∀ x∈ab,0≤x∧x<p.length)→∃ v,Tr m r.nodes s.nodes.length r.nodes.length left ab v∧r.b9=lq v s.b9
theorem DL.leaf (hm:VM m) (h:eG m left) {s r:DS} (hn:r.nodes=s.nodes++[lp []]) (hr:r.room=s.room) (hb:r.b9=min s.b9 (dN m left)) (ht:r.aX≤s.aX) (iv:r.aX<s.aX→r.aX=dN m left)
    (hw:r.whole=true→s.whole=true∧(r.plan,r.aX)=jE m (m.cls.length - p.length) p (s.plan,s.aX)∧r.aX≤dN m left):DL m left p s r:=by
  refine⟨ht,by omega,fun h=>by have:=iv h;omega,fun h=>?_,by rw[hn,hr];simp;omega,fun h=>by omega,by rw[hn];simp,fun i hi=>by rw[hn];exact T' hi,fun ab o9=>⟨[tv m left],?_,?_⟩⟩
  · obtain ⟨a,b,c⟩:=hw h
    exact⟨a,b,by omega⟩
  · rw[hn,bV]
    exact .leaf _ _ _ ac5 (fun h=>by have:=o9 _ h;omega)
  · rw[hb];unfold lq tv;rw[Bb hm h];rfl
theorem Um {f:List (List Bool)→DS→DS} {ab:List Int} (hf:∀ k s,k<(m.cls.getD p.length default).length→DL m (bT left p.length k) (p++[(k:Int)]) s (f (bT left p.length k) s))
    (o9:∀ x∈ab,0≤x∧x<p.length+1):∀ (w o:Nat) (s:DS) (ks:List Int) (lo:Nat) (v:List Int),o+w=(m.cls.getD p.length default).length→ks.length=o→lo≤s.nodes.length→j5 m s.nodes lo s.nodes.length left p.length ab 0 ks v →
    (fA f left p.length w o s ks).1.aX≤s.aX∧(fA f left p.length w o s ks).1.b9≤s.b9∧((fA f left p.length w o s ks).1.aX<s.aX→(fA f left p.length w o s ks).1.b9≤(fA f left p.length w o s ks).1.aX) ∧
    ((fA f left p.length w o s ks).1.whole=true→s.whole=true∧((fA f left p.length w o s ks).1.plan,(fA f left p.length w o s ks).1.aX)=pd (jE m (m.cls.length - (p.length+1))) p w o (s.plan,s.aX)∧min s.b9 (fA f left p.length w o s ks).1.aX≤(fA f left p.length w o s ks).1.b9) ∧
    (((fA f left p.length w o s ks).1.nodes.length:Int)+(fA f left p.length w o s ks).1.room=s.nodes.length+s.room+w)∧(0≤s.room→0≤(fA f left p.length w o s ks).1.room)∧s.nodes.length≤(fA f left p.length w o s ks).1.nodes.length ∧
    (∀ i,i<s.nodes.length→nd (fA f left p.length w o s ks).1.nodes i=nd s.nodes i)∧(fA f left p.length w o s ks).2.length=o+w ∧
    ∃ u,j5 m (fA f left p.length w o s ks).1.nodes lo (fA f left p.length w o s ks).1.nodes.length left p.length ab 0 (fA f left p.length w o s ks).2 (v++u)∧(fA f left p.length w o s ks).1.b9=lq u s.b9
  | 0,o,s,ks,lo,v,ho,hk,gZ,hs=>⟨dE _,dE _,fun h=>absurd h (Fw _),fun h=>⟨h,rfl,by show min s.b9 s.aX≤s.b9;omega⟩,by show (s.nodes.length:Int)+s.room=_;simp,fun h=>h,aG _,fun _ _=>rfl,hk,[],by simpa [fA] using hs,rfl⟩
  | w+1,o,s,ks,lo,v,ho,hk,gZ,hs=>by
    have h:=hf o s (by omega)
    generalize hr:f (bT left p.length o) s=r at h
    have k7:(p++[(o:Int)]).length=p.length+1:=by simp
    obtain ⟨t1,t2,t3,t4,t5,t6,t7,t8,t9⟩:=h
    obtain ⟨u,hu,hub⟩:=t9 ab fun x hx=>by rw[k7];exact o9 x hx
    have iK:=j5.snoc (ks:=ks) (o:=0) (by rw[hk,fi];exact hu) (hs.frame fun i _ h2=>t8 i h2)
    obtain ⟨i1,i2,i3,i4,i5,i6,i7,i8,i9,u2,i10,i11⟩:=Um hf o9 w (o+1) r (ks++[(s.nodes.length:Int)]) lo (v++u) (by omega) (by simp[hk]) (by omega) iK
    rw[fA,hr]
    generalize fA f left p.length w (o+1) r (ks++[(s.nodes.length:Int)])=z at *
    refine⟨by omega,by omega,fun bw=>?_,fun hw=>?_,by omega,fun h=>i6 (t6 h),by omega,fun i hi=>(i8 i (by omega)).trans (t8 i hi),by omega,u++u2,by rw[← dI];exact i10,by rw[i11,hub,ac6]⟩
    · by_cases e:z.1.aX<r.aX
      · exact i3 e
      · have:=t3 (by omega);omega
    · obtain ⟨a1,a2,a3⟩:=i4 hw
      obtain ⟨b1,b2,b3⟩:=t4 a1
      refine⟨b1,?_,by omega⟩
      rw[a2,pd]
      rw[k7] at b2
      rw[b2]
theorem ED (hm:VM m):∀ (f:Nat) (left:List (List Bool)) (p:List Int) (s:DS),left.length+1≤f+p.length→Dn m left p→DL m left p s (j4 m f p.length left s)
  | 0,left,p,s,hf,h=>by have:=h.bp.len;rw[← h.fit.1] at this;omega
  | f+1,left,p,s,hf,h=>by
    obtain ⟨r,h1,h2,h3⟩:=Dn.skip (left:=left) _ p rfl h
    obtain ⟨g1,g2,g3,g4⟩:=xo (left:=left) _ p.length rfl
    have cq:p.length≤left.length:=by rw[h.fit.1];exact h.bp.len
    have dZ:=h.fit
    rw[j4]
    split
    · rename_i hv
      refine DL.leaf hm dZ rfl rfl rfl (dE _) (fun h=>absurd h (Fw _)) fun hw=>⟨hw,?_,hv⟩
      exact (Ug _ p (s.plan,s.aX) h.bp (by have:=h.bp.len;omega) fun q hq=>pk hv (h.bound hm hq)).symm
    rename_i hv
    split
    · rename_i he
      have rf:(p++r).length=m.cls.length:=by rw[h2,he,dZ.1]
      refine DL.leaf hm dZ rfl rfl rfl (by dsimp only;omega) (fun _=>rfl) fun hw=>⟨hw,?_,dE _⟩
      rw[h3,rf,j8,jE,← h1.exact hm rf,if_pos (by dsimp only;omega),h1.IE rf]
    rename_i he
    split
    · exact DL.leaf hm dZ rfl rfl rfl (dE _) (fun h=>absurd h (Fw _)) fun hw=>by cases hw
    rename_i mC
    rw[not_or] at mC
    rw[← h2] at he mC ⊢
    have bw:(p++r).length<m.cls.length:=by
      have:=h1.bp.len
      rw[dZ.1] at he
      omega
    have a7:(left.getD (p++r).length default).length=(m.cls.getD (p++r).length default).length:=dZ.2 _ (by rw[dZ.1];exact bw)
    have IF:p.length≤(p++r).length:=by simp
    generalize hP:p++r=P at *
    have hK:=fun ab o9=>Um (m:=m) (left:=left) (p:=P) (f:=j4 m f (P.length+1)) (ab:=ab) (fun k s' hk=>by
      have:=ED hm f (bT left P.length k) (P++[(k:Int)]) s' (by rw[show (bT left P.length k).length=left.length by unfold bT;simp];simp;omega) (h1.next bw hk)
      rwa [show (P++[(k:Int)]).length=P.length+1 by simp] at this) o9 (left.getD P.length default).length 0 (j3 left P.length (dN m left) s) [] (j3 left P.length (dN m left) s).nodes.length [] (by omega) rfl (aG _) (.nil _ _ _ _ _)
    obtain ⟨i1,i2,i3,i4,i5,i6,i7,i8,i9,_⟩:=hK [] (fun x hx=>by cases hx)
    have qA:=fun ab o9=>(hK ab o9).2.2.2.2.2.2.2.2.2
    clear hK
    generalize fA (j4 m f (P.length+1)) left P.length (left.getD P.length default).length 0 (j3 left P.length (dN m left) s) []=z at *
    unfold j3 at *
    dsimp only at *
    have aq:(s.nodes++[lp []]).length=s.nodes.length+1:=by simp
    rw[aq] at i5 i7 i8
    have Bz:∀ i,i≠s.nodes.length→nd (tu P.length s.nodes.length z).nodes i=nd z.1.nodes i:=fun i hi=>by
      unfold tu
      rw[Ua (by omega),if_neg hi]
    have Tx:nd (tu P.length s.nodes.length z).nodes s.nodes.length=⟨(P.length:Int),z.2,[],[],[]⟩:=by
      unfold tu
      rw[Ua (by omega),if_pos rfl]
    have ki:(tu P.length s.nodes.length z).nodes.length=z.1.nodes.length:=by unfold tu;simp
    refine⟨i1,i2,i3,fun hw=>?_,by rw[ki];show (z.1.nodes.length:Int)+z.1.room=_;omega,fun h=>i6 (by omega),by rw[ki];omega,fun i hi=>?_,fun ab o9=>?_⟩
    · obtain ⟨a1,a2,a3⟩:=i4 hw
      refine⟨a1,?_,a3⟩
      rw[h3,show m.cls.length - P.length=(m.cls.length - (P.length+1))+1 by omega,jE,← a7]
      exact a2
    · rw[Bz i (by omega),i8 i (by omega)];exact T' hi
    · obtain ⟨u,hu,hb⟩:=qA (ab++[(P.length:Int)]) fun x hx=>by
        rcases cr.1 hx with hx | hx
        · have:=o9 x hx;omega
        · rw[eM] at hx;omega
      rw[List.nil_append,aq] at hu
      refine⟨u,?_,hb⟩
      rw[ki]
      refine .node _ _ _ _ P.length z.2 _ Tx bw (fun hx=>by have:=o9 _ hx;omega) (by rw[i9];omega) ?_
      exact hu.frame fun i h1 _=>Bz i (by omega)
end T
namespace T
def jO (m:aj):Nat→Nat
  | 0=>1
  | d+1=>(m.cls.getD (m.cls.length - (d+1)) default).length * jO m d
variable {m:aj} {left:List (List Bool)} {p:List Int}
theorem Un {c:Nat} (h:c<m.cls.length):jO m (m.cls.length - c)=(m.cls.getD c default).length * jO m (m.cls.length - (c+1)):=by
  rw[show m.cls.length - c=(m.cls.length - (c+1))+1 by omega,jO,show m.cls.length - (m.cls.length - (c+1)+1)=c by omega]
theorem IG (nk:∀ l∈m.cls,1≤l.length):∀ d,d≤m.cls.length→1≤jO m d
  | 0,_=>aG _
  | d+1,h=>Nat.mul_pos (nk _ (aC (by omega))) (IG nk d (by omega))
theorem Uo:∀ (k a b:Nat),b - a=k→a≤b→b≤m.cls.length→(∀ j,a≤j→j<b→(m.cls.getD j default).length=1)→jO m (m.cls.length - a)=jO m (m.cls.length - b)
  | 0,a,b,hk,h1,h2,h=>by rw[show a=b by omega]
  | k+1,a,b,hk,h1,h2,h=>by
    rw[Un (by omega),h a (aG _) (by omega),pX]
    exact Uo k (a+1) b (by omega) (by omega) h2 fun j h3 h4=>h j (by omega) h4
theorem Uq {f:List (List Bool)→DS→DS} {c N Q:Nat} (hf:∀ k s,k<N→s.whole=true→(2 * Q - 2:Int)≤s.room→(Q - 1:Int)≤s.spl→(f (bT left c k) s).whole=true∧s.room - (2 * Q - 2)≤(f (bT left c k) s).room∧s.spl - (Q - 1)≤(f (bT left c k) s).spl) (hQ:1≤Q) :
    ∀ (w o:Nat) (s:DS) (ks:List Int),o+w=N→s.whole=true→(w:Int) * (2 * Q - 2)≤s.room→(w:Int) * (Q - 1)≤s.spl→(fA f left c w o s ks).1.whole=true∧s.room - (w:Int) * (2 * Q - 2)≤(fA f left c w o s ks).1.room∧s.spl - (w:Int) * (Q - 1)≤(fA f left c w o s ks).1.spl
  | 0,o,s,ks,ho,h1,h2,h3=>⟨h1,by show s.room - _≤s.room;omega,by show s.spl - _≤s.spl;omega⟩
  | w+1,o,s,ks,ho,h1,h2,h3=>by
    have e1:((w+1:Nat):Int) * (2 * Q - 2)=(w:Int) * (2 * Q - 2)+(2 * Q - 2):=by rw[uQ,JT];simp
    have e2:((w+1:Nat):Int) * (Q - 1)=(w:Int) * (Q - 1)+(Q - 1):=by rw[uQ,JT];simp
    have p1:0≤(w:Int) * (2 * Q - 2):=p6 (by omega) (by omega)
    have p2:0≤(w:Int) * (Q - 1):=p6 (by omega) (by omega)
    rw[e1] at h2 ⊢
    rw[e2] at h3 ⊢
    obtain ⟨a,b,c'⟩:=hf o s (by omega) h1 (by omega) (by omega)
    obtain ⟨x,y,z⟩:=Uq hf hQ w (o+1) (f (bT left c o) s) (ks++[(s.nodes.length:Int)]) (by omega) a (by omega) (by omega)
    rw[fA]
    exact⟨x,by omega,by omega⟩
theorem IH (hm:VM m) (nk:∀ l∈m.cls,1≤l.length):∀ (f:Nat) (left:List (List Bool)) (p:List Int) (s:DS),left.length+1≤f+p.length→Dn m left p→s.whole=true→(2 * jO m (m.cls.length - p.length) - 2:Int)≤s.room→(jO m (m.cls.length - p.length) - 1:Int)≤s.spl →
    (j4 m f p.length left s).whole=true∧s.room - (2 * jO m (m.cls.length - p.length) - 2)≤(j4 m f p.length left s).room∧s.spl - (jO m (m.cls.length - p.length) - 1)≤(j4 m f p.length left s).spl
  | 0,left,p,s,hf,h,_,_,_=>by have:=h.bp.len;rw[← h.fit.1] at this;omega
  | f+1,left,p,s,hf,h,hw,hr,hs=>by
    obtain ⟨r,h1,h2,h3⟩:=Dn.skip (left:=left) _ p rfl h
    obtain ⟨g1,g2,g3,g4⟩:=xo (left:=left) _ p.length rfl
    have dZ:=h.fit
    have Ur:=IG nk (m.cls.length - p.length) (by omega)
    rw[j4]
    split
    · exact⟨hw,by show _≤s.room;omega,by show _≤s.spl;omega⟩
    split
    · exact⟨hw,by show _≤s.room;omega,by show _≤s.spl;omega⟩
    rename_i he
    rw[← h2] at he g1 g3 g4 ⊢
    have IF:p.length≤(p++r).length:=by simp
    have bw:(p++r).length<m.cls.length:=by
      have:=h1.bp.len
      rw[dZ.1] at he
      omega
    have a7:(left.getD (p++r).length default).length=(m.cls.getD (p++r).length default).length:=dZ.2 _ (by rw[dZ.1];exact bw)
    have j9:=Uo (m:=m) _ p.length (p++r).length rfl IF (by omega) fun j h4 h5=>by rw[← dZ.2 j (g3 j h4 h5).1];exact (g3 j h4 h5).2
    rw[j9] at hr hs Ur ⊢
    generalize hP:p++r=P at *
    have nN:2≤(m.cls.getD P.length default).length:=by
      have:=nk _ (aC (d:=default) bw)
      have:=g4 (by rw[dZ.1];exact bw)
      omega
    rw[Un bw] at hr hs Ur ⊢
    have hQ:=IG nk (m.cls.length - (P.length+1)) (by omega)
    have ih:=fun k s' hk=>IH hm nk f (bT left P.length k) (P++[(k:Int)]) s' (by rw[show (bT left P.length k).length=left.length by unfold bT;simp];simp;omega) (h1.next bw hk)
    simp only[bV,List.length_singleton] at ih
    generalize hq:jO m (m.cls.length - (P.length+1))=Q at *
    generalize hN:(m.cls.getD P.length default).length=N at *
    have hmul:((N * Q:Nat):Int)=(N:Int) * Q:=by rw[Fo]
    rw[hmul] at hr hs ⊢
    have lW:(N:Int) * 1≤(N:Int) * Q:=Int.mul_le_mul_of_nonneg_left (by omega) (by omega)
    have e1:(N:Int) * (2 * Q - 2)=2 * ((N:Int) * Q) - 2 * N:=by rw[Int.mul_sub,Int.mul_left_comm];omega
    have e2:(N:Int) * (Q - 1)=(N:Int) * Q - N:=by rw[Int.mul_sub];omega
    rw[a7]
    split
    · rename_i xp
      rcases xp with xp | xp<;>omega
    have hK:=Uq (left:=left) (f:=j4 m f (P.length+1)) (c:=P.length) (N:=N) (Q:=Q) (fun k s' hk a b c=>ih k s' hk a b c) hQ N 0 (j3 left P.length (dN m left) s) [] (by omega) hw (by rw[e1];unfold j3;dsimp only;omega) (by rw[e2];unfold j3;dsimp only;omega)
    generalize fA (j4 m f (P.length+1)) left P.length N 0 (j3 left P.length (dN m left) s) []=z at *
    obtain ⟨a,b,c⟩:=hK
    rw[e1] at b
    rw[e2] at c
    unfold j3 at b c
    dsimp only at b c
    exact⟨a,by show _≤z.1.room;omega,by show _≤z.1.spl;omega⟩
theorem Us (left:List (List Bool)):∀ (l:List (List bx)) (i:Nat) (n:Int),[]∈l→mc left i l n=none
  | [],i,n,h=>by cases h
  | c::l,i,n,h=>by
    rw[mc]
    split
    · rfl
    · rename_i hc
      refine Us left l _ _ ((cu.1 h).resolve_left fun e=>hc ?_)
      rw[← e];rfl
theorem Ut (h:[]∈m.cls) (left:List (List Bool)):dN m left=1099511627776:=by
  unfold dN;rw[Us left _ _ _ h];rfl
theorem Uu {f:List Int→List Int × Int} (hf:∀ q,f q=([],1099511627776)∨(f q).2<1099511627776) (p:List Int):∀ (w k:Nat) (a:List Int × Int),(a=([],1099511627776)∨a.2<1099511627776)→(nW f p w k a=([],1099511627776)∨(nW f p w k a).2<1099511627776)
  | 0,k,a,h=>h
  | w+1,k,a,h=>by
    rw[nW]
    refine Uu hf p w (k+1) _ ?_
    split
    · exact hf _
    · exact h
theorem Uv (m:aj):∀ (d:Nat) (p:List Int),eD m d p=([],1099511627776)∨(eD m d p).2<1099511627776
  | 0,p=>by
    unfold eD
    split
    · exact .inl rfl
    · exact .inr (by dsimp only;omega)
  | d+1,p=>Uu (Uv m d) p _ _ _ (.inl rfl)
def EE:DS:=⟨[],19999,20000,true,[],1099511627776,1099511627776⟩
def bz (m:aj):DS:=j4 m (m.cls.length+1) 0 (dD m) EE
theorem EF (hm:VM m) (h:[]∈m.cls∨jO m m.cls.length≤8000):(bz m).whole=true∧((bz m).plan,(bz m).aX)=eD m m.cls.length []∧(bz m).b9=(bz m).aX∧l9 m (bz m).nodes=((bz m).aX,true)∧(bz m).nodes.length≤20000:=by
  have hr:=Dn.root hm
  have hd:=ED hm (m.cls.length+1) (dD m) [] EE (by rw[hr.fit.1];simp) hr
  have hw:(bz m).whole=true:=by
    by_cases he:[]∈m.cls
    · unfold bz
      rw[j4,Ut he,if_pos (by show (1099511627776:Int)≤_;omega)];rfl
    · have nk:∀ l∈m.cls,1≤l.length:=fun l hl=>by
        cases l with
        | nil=>exact absurd hl he
        | cons a b=>simp
      have hc:=h.resolve_left he
      refine (IH hm nk (m.cls.length+1) (dD m) [] EE (by rw[hr.fit.1];simp) hr rfl ?_ ?_).1
      · show (2 * jO m m.cls.length - 2:Int)≤19999;omega
      · show (jO m m.cls.length - 1:Int)≤20000;omega
  obtain ⟨d1,d2,d3,d4,d5,d6,d7,d8,d9⟩:=hd
  change (bz m).aX≤1099511627776 at d1
  change (bz m).b9≤1099511627776 at d2
  change (bz m).aX<1099511627776→(bz m).b9≤(bz m).aX at d3
  obtain ⟨_,e1,e2⟩:=d4 hw
  change ((bz m).plan,(bz m).aX)=jE m m.cls.length [] ([],1099511627776) at e1
  change min 1099511627776 (bz m).aX≤(bz m).b9 at e2
  change ((bz m).nodes.length:Int)+(bz m).room=0+19999+1 at d5
  have d6:0≤(bz m).room:=d6 (by show (0:Int)≤19999;omega)
  have hb:(bz m).b9=(bz m).aX:=by omega
  obtain ⟨v,hv,rY⟩:=d9 [] (fun x hx=>by cases hx)
  have rY:(bz m).b9=lq v 1099511627776:=rY
  have ep:=Tr.ec (P:=(bz m).nodes) hm hv (by omega)
  refine⟨hw,?_,hb,by rw[ep,← rY,hb],by omega⟩
  rw[e1,IB _ _ _ _ (dE _)]
  rcases Uv m m.cls.length [] with e | e
  · rw[e];rfl
  · rw[if_pos e]
end T
namespace T
def oU:List (List bx)→Int→Int
  | [],n=>n
  | c::r,n=>if c.length=0 then 0 else oU r (min (n * c.length) 65537)
def eC (m:aj):Int:=if dz m=0 then oU m.cls 1 else 0
def lr:List (List bx)→Nat
  | []=>1
  | c::r=>c.length * lr r
theorem Uw:∀ {l:List (List bx)},[] ∉ l→1≤lr l
  | [],_=>aG _
  | c::r,h=>Nat.mul_pos (by cases c with | nil=>simp at h | cons a b=>simp) (Uw fun e=>h (by simp[e]))
theorem II:∀ (l:List (List bx)) (n:Nat),[] ∉ l→n≤65537→oU l n=min ((n * lr l:Nat):Int) 65537
  | [],n,h,hn=>by show (n:Int)=_;rw[lr,Nat.mul_one];omega
  | c::r,n,h,hn=>by
    have hc:1≤c.length:=by cases c with | nil=>simp at h | cons a b=>simp
    have hr:[] ∉ r:=fun e=>h (by simp[e])
    have hp:=Uw hr
    rw[oU,if_neg (by omega),show (min ((n:Int) * c.length) 65537:Int)=((min (n * c.length) 65537:Nat):Int) by rw[← Fo];omega,II r _ hr (by omega),lr,← Nat.mul_assoc]
    by_cases e:n * c.length≤65537
    · rw[Nat.min_eq_left e]
    · rw[Nat.min_eq_right (by omega)]
      have h1:65537 * 1≤65537 * lr r:=Nat.mul_le_mul_left _ hp
      have h2:65537 * 1≤n * c.length * lr r:=zC (by omega) hp
      omega
theorem IJ (m:aj):∀ (d:Nat),d≤m.cls.length→jO m d=lr (m.cls.drop (m.cls.length - d))
  | 0,_=>by rw[uL,List.drop_length];rfl
  | d+1,h=>by
    rw[jO,cA m.cls (m.cls.length - (d+1)) default (by omega),lr,IJ m d (by omega),show m.cls.length - (d+1)+1=m.cls.length - d by omega]
theorem EG {m:aj} (hm:VM m) (h:eC m≤1000):[]∈m.cls∨jO m m.cls.length≤8000:=by
  by_cases he:[]∈m.cls
  · exact .inl he
  · right
    unfold eC at h
    rw[if_pos (eB.2 hm),show (1:Int)=((1:Nat):Int) from rfl,II _ _ he (by omega),pX] at h
    rw[IJ m _ (aG _),j8,List.drop_zero]
    omega
theorem Ux {m:aj} {w:Nat} (h:∀ l∈m.cls,l.length≤w):∀ d,d≤m.cls.length→jO m d≤w ^ d
  | 0,_=>aG _
  | d+1,hd=>by
    rw[jO,Nat.pow_succ,Nat.mul_comm]
    exact zC (Ux h d (by omega)) (h _ (aC (by omega)))
theorem IK {m:aj} (Z:List Int × Int→Prop) (h0:Z ([],1099511627776)):∀ (d:Nat) (p:List Int),BP m p→p.length+d=m.cls.length→(∀ q,Ext m p q→fM m q<1099511627776→Z (q,fM m q))→Z (eD m d p)
  | 0,p,hp,hd,h=>by
    unfold eD
    split
    · exact h0
    · exact h p ⟨hp.fp (by omega),[],by simp⟩ (by omega)
  | d+1,p,hp,hd,h=>by
    unfold eD
    have key:∀ (w k:Nat) (a:List Int × Int),k+w=(m.cls.getD p.length default).length→Z a→Z (nW (eD m d) p w k a):=by
      intro w
      induction w with
      | zero=>intro k a _ ha;exact ha
      | succ w ih =>
        intro k a hk ha
        rw[nW]
        refine ih (k+1) _ (by omega) ?_
        split
        · refine IK Z h0 d _ (hp.snoc (by omega) (by omega)) (by rw[bV];simp;omega) fun q hq=>h q ⟨hq.1,?_⟩
          obtain ⟨r,rfl⟩:=hq.2
          exact⟨(k:Int)::r,by simp⟩
        · exact ha
    exact key _ 0 _ (by omega) h0
theorem G8 (m:aj):BP m []:=⟨aM _,fun j hj=>by cases hj⟩
theorem Uy {m:aj} (h:(eD m m.cls.length []).2<1099511627776):FP m (eD m m.cls.length []).1∧fM m (eD m m.cls.length []).1=(eD m m.cls.length []).2 :=
  IK (fun z=>z.2<1099511627776→FP m z.1∧fM m z.1=z.2) (fun h=>absurd h (Fw _)) _ [] (G8 m) (by simp) (fun q hq _ _=>⟨hq.1,rfl⟩) h
theorem IL {m:aj} {q:List Int} (hq:FP m q):(eD m m.cls.length []).2≤fM m q:=by
  rcases Int.lt_or_le (fM m q) (eD m m.cls.length []).2 with h | h
  · exfalso
    have h1:=IB m m.cls.length [] (eD m m.cls.length []) (Ue m _ _)
    rw[if_neg (Fw _)] at h1
    have h2:∀ (d:Nat) (p:List Int) (a:List Int × Int),Ext m p q→p.length+d=m.cls.length→(jE m d p a).2≤fM m q:=by
      have mono:∀ (d:Nat) (p:List Int) (a:List Int × Int),(jE m d p a).2≤a.2:=by
        intro d
        induction d with
        | zero=>intro p a;unfold jE;split<;>(try dsimp only)<;>omega
        | succ d ih =>
          intro p a
          unfold jE
          have:∀ (w k:Nat) (b:List Int × Int),(pd (jE m d) p w k b).2≤b.2:=by
            intro w
            induction w with
            | zero=>intro k b;exact dE _
            | succ w BA=>intro k b;rw[pd];exact pk (BA _ _) (ih _ _)
          exact this _ _ _
      intro d
      induction d with
      | zero =>
        intro p a hx hd
        obtain ⟨hf,r,rfl⟩:=hx
        have hl:=hf.len
        rw[bV] at hl
        have:r=[]:=List.eq_nil_of_length_eq_zero (by omega)
        subst this
        rw[List.append_nil]
        unfold jE;split<;>(try dsimp only)<;>omega
      | succ d ih =>
        intro p a hx hd
        obtain ⟨hf,r,rfl⟩:=hx
        have hl:=hf.len
        rw[bV] at hl
        cases r with
        | nil=>simp at hl;omega
        | cons x r =>
          have hg:=fZ.1 (hf.get p.length (by simp))
          rw[gD,aA,eK (aG _),j8] at hg
          change _∧_∧0≤x∧x<_ at hg
          unfold jE
          have key:∀ (w k:Nat) (b:List Int × Int),k≤x.toNat→x.toNat<k+w→(pd (jE m d) p w k b).2≤fM m (p++x::r):=by
            have uo:∀ (w k:Nat) (b:List Int × Int),(pd (jE m d) p w k b).2≤b.2:=by
              intro w
              induction w with
              | zero=>intro k b;exact dE _
              | succ w BA=>intro k b;rw[pd];exact pk (BA _ _) (mono _ _ _)
            intro w
            induction w with
            | zero=>intro k b h1 h2;omega
            | succ w BA =>
              intro k b h1 h2
              rw[pd]
              by_cases e:k=x.toNat
              · refine pk (uo _ _ _) ?_
                rw[show (k:Int)=x by omega]
                exact ih (p++[x]) b ⟨hf,r,by simp⟩ (by simp;omega)
              · exact BA _ _ (by omega) (by omega)
          exact key _ 0 a (by omega) (by omega)
    have h3:=h2 m.cls.length [] (eD m m.cls.length []) ⟨hq,q,by simp⟩ (by simp)
    rw[h1] at h3
    omega
  · exact h
theorem ada {m:aj} (hm:VM m) (h:m.cls.length=0):fM m []=0:=by
  unfold fM
  have ug:FP m []:=⟨h.symm,fun j hj=>(by cases hj)⟩
  rw[y9 hm ug,h]
  have h1:m.ae.length=0:=by
    cases hp:m.ae with
    | nil=>rfl
    | cons p r =>
      have:=(kJ (jh hm.pr p (by rw[hp];simp))).2
      omega
  have h2:bj (fun i=>g9 [] (m.au.getD i default)) m.au.length=0:=by
    have:∀ n,n≤m.au.length→bj (fun i=>g9 [] (m.au.getD i default)) n=0:=by
      intro n
      induction n with
      | zero=>intro _;rfl
      | succ n ih =>
        intro hn
        rw[bj,ih (by omega)]
        obtain ⟨_,q2,_,q4⟩:=lj (hm.ct _ (aC (l:=m.au) (i:=n) (d:=default) (by omega)))
        have hl:(m.au.getD n default).aS=[]:=by
          cases hl:(m.au.getD n default).aS with
          | nil=>rfl
          | cons x r =>
            have:=fZ.1 (nZ q4 x (by rw[hl];simp)).1
            omega
        unfold g9 jk
        rw[hl,show iU [] ([]:List Ld) 0=0 from rfl,if_pos (by omega)];rfl
    exact this _ (aG _)
  rw[h1,h2];rfl
end T
namespace T
def j6 (n:Int):Bool:=decide (n=1099511627776)
def lu (n:Int):Int:=if n=1099511627776 then 1099511627776 else 0
def fI (o:bx):bx:={ o with ch:=o.ch.filter fun c=>j6 c.2 }
def iw (p:Pr):Pr:={ p with az:=p.az.map lu }
def aI (m:aj):aj:=⟨m.cls.map fun l=>l.map fI,m.ae.map iw,m.au.filter fun c=>j6 c.bL,m.rules⟩
theorem xq (m:aj) (j:Nat):((aI m).cls.getD j default).length=(m.cls.getD j default).length:=by
  unfold aI
  dsimp only
  rw[aA,cm,aA]
  cases m.cls[j]? with
  | none=>rfl
  | some l=>simp
theorem oS (m:aj):(aI m).cls.length=m.cls.length:=by unfold aI;simp
theorem AP (m:aj) (c o:Int):g7 (aI m) c o=g7 m c o:=by unfold g7;rw[oS,xq]
theorem Uz (m:aj):∀ (l:List Ld) (q:Option Ld),dx (aI m) q l=dx m q l
  | [],q=>by cases q<;>rfl
  | x::r,q=>by
    rw[dx.eq_def,dx.eq_def m]
    dsimp only
    rw[AP,Uz m r]
theorem UA {m:aj}:∀ (l:List Pr) (q:Option Pr),ee m q l=true→ee (aI m) (q.map iw) (l.map iw)=true
  | [],q,_=>by cases q<;>rfl
  | p::r,q,h=>by
    rw[ee.eq_def] at h
    simp only[bk] at h
    obtain ⟨⟨a,b⟩,c⟩:=h
    rw[dO,ee.eq_def]
    simp only[bk]
    refine⟨⟨?_,?_⟩,UA r (some p) c⟩
    · unfold eW at *
      simp only[bk,decide_eq_true_eq] at a ⊢
      rw[oS,show (iw p).fst=p.fst from rfl,show (iw p).snd=p.snd from rfl,xq,xq]
      obtain ⟨⟨a1,a2⟩,a3⟩:=a
      refine⟨⟨a1,a2.1,a2.2.1,a2.2.2.1,by show ((p.az.map lu).length:Int)=_;rw[ey];exact a2.2.2.2⟩,?_⟩
      have:(iw p).az.any nf=false:=Fs.2 fun x hx=>by
        obtain ⟨y,hy,rfl⟩:=ca.1 hx
        unfold lu
        split<;>decide
      rw[this];rfl
    · cases q with
      | none=>rfl
      | some q=>exact b
theorem sY {m:aj} (h:VM m):VM (aI m):=by
  refine⟨by rw[oS];exact h.cls,fun l hl=>?_,by show (m.ae.map iw).length≤4000;rw[ey];exact h.ae,iJ (xP _ _) h.au,h.im,fun l hl o ho=>?_,UA m.ae none h.pr,fun c hc=>?_⟩
  · obtain ⟨l',ix,rfl⟩:=ca.1 hl
    rw[ey];exact h.opt _ ix
  · obtain ⟨l',ix,rfl⟩:=ca.1 hl
    obtain ⟨o',cR,rfl⟩:=ca.1 ho
    exact D1 _ (h.kI _ ix _ cR)
  · have ka:=h.ct c (nx.1 hc).1
    unfold fY at *
    rw[Uz];exact ka
def Zf (n:Int):Prop:=n=0∨1099511627776≤n
theorem vR {f:Nat→Int}:∀ (n:Nat),(∀ i,i<n→Zf (f i))→Zf (bj f n)
  | 0,_=>.inl rfl
  | n+1,h=>by
    have h1:=vR n fun i hi=>h i (by omega)
    have h2:=h n (ny n)
    unfold Zf at *
    rw[bj];omega
theorem IM (o:bx):Zf (jg (fI o)):=by
  have h:∀ (l:List Int) (a:Int),(∀ x∈l,x=1099511627776)→(a=0∨a=1099511627776)→(l.foldl dw a=0∨l.foldl dw a=1099511627776):=by
    intro l
    induction l with
    | nil=>intro a _ h;exact h
    | cons x l ih =>
      intro a h1 h2
      refine ih _ (fun y hy=>h1 y (by simp[hy])) (.inr ?_)
      rw[h1 x (by simp)]
      unfold dw;omega
  have:=h ((fI o).ch.map (·.2)) 0 (fun x hx=>by
    obtain ⟨c,hc,rfl⟩:=ca.1 hx
    have:=(nx.1 hc).2
    unfold j6 at this
    simpa using this) (.inl rfl)
  unfold jg Zf
  omega
theorem adb {m:aj} (hm:VM m) {plan:List Int} (hp:FP (aI m) plan):fM (aI m) plan=0∨fM (aI m) plan=1099511627776:=by
  unfold fM
  rw[y9 (sY hm) hp]
  have h1:Zf (bj (kL (aI m) plan) (aI m).cls.length):=vR _ fun i hi=>by
    unfold kL
    have hg:=fZ.1 (hp.get i (by rw[hp.len];exact hi))
    rw[gD] at hg
    have hc:(aI m).cls.getD i default=(m.cls.getD i default).map fI:=iG _ _ _ (by rw[oS] at hi;exact hi)
    rw[hc] at hg ⊢
    rw[ey] at hg
    rw[iG _ _ _ (by omega)]
    exact IM _
  have h2:Zf (bj (fun i=>jm (aI m) plan ((aI m).ae.getD i default)) (aI m).ae.length):=vR _ fun i hi=>by
    have hc:(aI m).ae.getD i default=iw (m.ae.getD i default):=iG _ _ _ (by simpa [aI] using hi)
    rw[hc]
    unfold jm lk
    generalize (_:Int).toNat=k
    show Zf (((m.ae.getD i default).az.map lu).getD k 0)
    rw[aA,cm]
    cases (m.ae.getD i default).az[k]? with
    | none=>exact .inl rfl
    | some x=>show Zf (lu x);unfold lu Zf;split<;>omega
  have h3:Zf (bj (fun i=>g9 plan ((aI m).au.getD i default)) (aI m).au.length):=vR _ fun i hi=>by
    have hc:=(nx.1 (aC (d:=default) hi)).2
    unfold j6 at hc
    rw[decide_eq_true_eq] at hc
    unfold g9 jk
    rw[show ((aI m).au.getD i default).bL=1099511627776 from hc]
    split
    · exact .inl rfl
    · right;omega
  unfold Zf at *
  omega
theorem ade {m:aj} (hm:VM m):(eD (aI m) (aI m).cls.length []).2=0∨(eD (aI m) (aI m).cls.length []).2=1099511627776 :=
  IK (fun z=>z.2=0∨z.2=1099511627776) (.inr rfl) _ [] (G8 _) (by simp) fun q hq _=>adb hm hq.1
theorem IN:∀ (l k:List (List bx)) (n:Int),l.map su=k.map su→oU l n=oU k n
  | [],[],n,_=>rfl
  | [],b::k,n,h=>by simp at h
  | a::l,[],n,h=>by simp at h
  | a::l,b::k,n,h=>by
    simp only[dO,List.cons.injEq] at h
    rw[oU,oU,h.1]
    split
    · rfl
    · exact IN l k _ h.2
theorem UB {m:aj} (hm:VM m):eC (aI m)=eC m:=by
  unfold eC
  rw[if_pos (eB.2 hm),if_pos (eB.2 (sY hm))]
  refine IN _ _ _ ?_
  show (m.cls.map fun l=>l.map fI).map su=_
  rw[List.map_map]
  exact List.map_congr_left fun l _=>by simp
end T
namespace T
def fq (m:aj):List Int:=(aN m.rules.toNat).map fun (i:Nat)=>(i:Int)
def bU (l:List Int) (n:Int):List Int:=l.filter fun x=>!(x == n)
def fW (R:Int) (l:List Int):List Bool:=(aN R.toNat).map fun (i:Nat)=>l.contains (i:Int)
def bN (m:aj) (l:List Int):aj:=gv m (fW m.rules l)
def vv (r:aj):Prop:=(bz (aI r)).aX=1099511627776∨fM r (bz (aI r)).plan<1099511627776
instance (r:aj):Decidable (vv r):=by unfold vv;infer_instance
def tryD (r:aj):DS:=if vv r then bz (aI r) else bz r
def m7 (r:aj):Int:=if (bz (aI r)).whole=false then 61 else if vv r then 0 else if (bz r).whole=false then 61 else 0
def mG (m:aj) (l:List Int):Prop:=l.length≤1000∧∀ x∈l,0≤x∧x<m.rules
theorem yI (R:Int) (l:List Int):(fW R l).length=R.toNat:=by unfold fW;simp
theorem mG.bU {m:aj} {l:List Int} (h:mG m l) (n:Int):mG m (bU l n):=⟨iJ (xP _ _) h.1,fun x hx=>h.2 x (nx.1 hx).1⟩
theorem IP {m:aj} (hm:VM m):mG m (fq m):=by
  have:=hm.im
  refine⟨by unfold fq;simp;omega,fun x hx=>?_⟩
  unfold fq at hx
  obtain ⟨i,hi,rfl⟩:=ca.1 hx
  have:=lP.1 hi
  omega
end T

