import Derived.Test.YtibijngmebpmmaaPG
import Derived.Test.YtibijngmebpmmaaM18b
set_option linter.unusedVariables false
set_option linter.unusedSimpArgs false
set_option linter.unnecessarySimpa false
open Go Go.Am
namespace T
def leafG (m:Mdl) (L:List Int) (nodes:List Nd) (k:Nat):List Nd × Nat:=(nodes++[leafN (movF L m 3 (nextA L k)).1],(movF L m 3 (nextA L k)).2)
def drawC (m:Mdl) (L:List Int) (k:Nat):Int:=nextV L k ((m.cls.length:Int)+1)
def doneB (m:Mdl) (L:List Int) (s:Nat) (nodes:List Nd) (k:Nat) (ab:List Int):Bool :=
  decide (drawC m L k=m.cls.length) || decide (s=0) || decide (300<nodes.length+1) || ab.contains (drawC m L k)
def growL (g:List Nd→Nat→List Nd × Nat):Nat→List Nd→Nat→List Int→List Nd × Nat × List Int
  | 0,nodes,k,ks=>(nodes,k,ks)
  | w+1,nodes,k,ks=>growL g w (g nodes k).1 (g nodes k).2 (ks++[(nodes.length:Int)])
def growF (m:Mdl) (L:List Int):Nat→List Nd→Nat→List Int→List Nd × Nat
  | 0,nodes,k,ab=>leafG m L nodes k
  | s+1,nodes,k,ab =>
    if doneB m L (s+1) nodes k ab=true then leafG m L nodes k
    else ((growL (fun n q=>growF m L s n q (ab++[drawC m L k])) (m.cls.getD (drawC m L k).toNat default).length (nodes++[leafN []]) (nextA L k) []).1.set nodes.length ⟨drawC m L k,(growL (fun n q=>growF m L s n q (ab++[drawC m L k])) (m.cls.getD (drawC m L k).toNat default).length (nodes++[leafN []]) (nextA L k) []).2.2,[],[],[]⟩,
      (growL (fun n q=>growF m L s n q (ab++[drawC m L k])) (m.cls.getD (drawC m L k).toNat default).length (nodes++[leafN []]) (nextA L k) []).2.1)
theorem growF_eq (m:Mdl) (L:List Int) (s:Nat) (nodes:List Nd) (k:Nat) (ab:List Int):growF m L s nodes k ab =
    if doneB m L s nodes k ab=true then leafG m L nodes k
    else ((growL (fun n q=>growF m L (s - 1) n q (ab++[drawC m L k])) (m.cls.getD (drawC m L k).toNat default).length (nodes++[leafN []]) (nextA L k) []).1.set nodes.length ⟨drawC m L k,(growL (fun n q=>growF m L (s - 1) n q (ab++[drawC m L k])) (m.cls.getD (drawC m L k).toNat default).length (nodes++[leafN []]) (nextA L k) []).2.2,[],[],[]⟩,
      (growL (fun n q=>growF m L (s - 1) n q (ab++[drawC m L k])) (m.cls.getD (drawC m L k).toNat default).length (nodes++[leafN []]) (nextA L k) []).2.1):=by
  cases s with
  | zero=>rw[growF,if_pos];unfold doneB;simp
  | succ s=>rfl
theorem drawC_rg (m:Mdl) (L:List Int) (k:Nat):0≤drawC m L k∧drawC m L k≤m.cls.length:=by
  have:=nextV_range (L:=L) (k:=k) (n:=(m.cls.length:Int)+1) (by omega)
  unfold drawC;omega
def szB (w:Nat):Nat→Nat
  | 0=>1
  | s+1=>1+w * szB w s
theorem szB_pos (w s:Nat):1≤szB w s:=by cases s<;>simp[szB]
structure GrowOK (m:Mdl) (L:List Int) (w:Nat) (s:Nat) (ab:List Int) (nodes:List Nd) (r:List Nd × Nat):Prop where
  k:r.2≤L.length
  lt:nodes.length<r.1.length
  le:r.1.length≤nodes.length+szB w s
  pre:∀ i,i<nodes.length→nd r.1 i=nd nodes i
  seg:Seg m r.1 nodes.length r.1.length ab
theorem nd_app {P:List Nd} {x:Nd} {i:Nat} (h:i<P.length):nd (P++[x]) i=nd P i:=by
  unfold nd
  rw[List.getD_eq_getElem?_getD,List.getElem?_append_left h,List.getD_eq_getElem?_getD]
theorem nd_last {P:List Nd} {x:Nd}:nd (P++[x]) P.length=x:=by
  unfold nd
  rw[List.getD_eq_getElem?_getD,List.getElem?_append_right (Nat.le_refl _)];simp
theorem nd_set {P:List Nd} {x:Nd} {i j:Nat} (h:j<P.length):nd (P.set j x) i=if i=j then x else nd P i:=by
  unfold nd
  rw[List.getD_eq_getElem?_getD,List.getElem?_set]
  by_cases e:j=i
  · subst e;rw[if_pos rfl,if_pos h,if_pos rfl];rfl
  · rw[if_neg e,if_neg (Ne.symm e),List.getD_eq_getElem?_getD]
theorem growL_ok {m:Mdl} {L:List Int} {w s:Nat} {ab:List Int} (g:List Nd→Nat→List Nd × Nat) (hg:∀ n q,q≤L.length→GrowOK m L w s ab n (g n q)):∀ (c:Nat) (nodes:List Nd) (k:Nat) (ks:List Int) (lo:Nat),k≤L.length→lo≤nodes.length→Segs m nodes lo nodes.length ab ks →
    (growL g c nodes k ks).2.1≤L.length∧nodes.length≤(growL g c nodes k ks).1.length∧(growL g c nodes k ks).1.length≤nodes.length+c * szB w s∧(∀ i,i<nodes.length→nd (growL g c nodes k ks).1 i=nd nodes i)∧Segs m (growL g c nodes k ks).1 lo (growL g c nodes k ks).1.length ab (growL g c nodes k ks).2.2∧(growL g c nodes k ks).2.2.length=ks.length+c
  | 0,nodes,k,ks,lo,hk,hlo,hs=>by
    rw[growL]
    exact⟨hk,Nat.le_refl _,Nat.le_add_right _ _,fun _ _=>rfl,hs,rfl⟩
  | c+1,nodes,k,ks,lo,hk,hlo,hs=>by
    rw[growL]
    have h:=hg nodes k hk
    obtain ⟨i1,i2,i3,i4,i5,i6⟩:=growL_ok g hg c (g nodes k).1 (g nodes k).2 (ks++[(nodes.length:Int)]) lo h.k (by have:=h.lt;omega) (Segs.snoc h.seg (hs.frame fun i _ h2=>h.pre i h2))
    have h1:=h.lt
    have h2:=h.le
    refine⟨i1,by omega,?_,fun i hi=>(i4 i (by omega)).trans (h.pre i hi),i5,by rw[i6];simp;omega⟩
    have:(c+1) * szB w s=c * szB w s+szB w s:=by rw[Nat.add_mul,Nat.one_mul]
    omega
theorem leafG_ok {m:Mdl} {L:List Int} (hm:VM m) (hsome:∀ l∈m.cls,1≤l.length) (w s:Nat) {ab:List Int} (ha:(-1:Int) ∉ ab) (nodes:List Nd) {k:Nat} (hk:k≤L.length):GrowOK m L w s ab nodes (leafG m L nodes k):=by
  obtain ⟨a1,a2,a3⟩:=movF_ok (L:=L) (m:=m) (most:=3) hm hsome (nextA_le hk)
  have:=szB_pos w s
  refine⟨a3,by simp[leafG],by simp[leafG];omega,fun i hi=>nd_app hi,?_⟩
  unfold leafG
  dsimp only
  rw[List.length_append,List.length_singleton]
  exact .leaf _ _ _ nd_last (by omega) a2 ha
theorem growF_ok {m:Mdl} {L:List Int} (hm:VM m) {w:Nat} (hsome:∀ l∈m.cls,1≤l.length∧l.length≤w):∀ (s:Nat) (nodes:List Nd) (k:Nat) (ab:List Int),k≤L.length→(∀ x∈ab,0≤x)→GrowOK m L w s ab nodes (growF m L s nodes k ab)
  | 0,nodes,k,ab,hk,hab=>leafG_ok hm (fun l hl=>(hsome l hl).1) w 0 (fun h=>by have:=hab _ h;omega) nodes hk
  | s+1,nodes,k,ab,hk,hab=>by
    rw[growF]
    split
    · exact leafG_ok hm (fun l hl=>(hsome l hl).1) w (s+1) (fun h=>by have:=hab _ h;omega) nodes hk
    · rename_i hd
      have hc:=drawC_rg m L k
      generalize hcc:drawC m L k=c at *
      rw[Bool.not_eq_true] at hd
      unfold doneB at hd
      rw[hcc] at hd
      simp only[Bool.or_eq_false_iff,decide_eq_false_iff_not] at hd
      obtain ⟨⟨⟨d1,d2⟩,d3⟩,d4⟩:=hd
      have hcl:c.toNat<m.cls.length:=by omega
      have hw:=hsome _ (getD_mem (l:=m.cls) (i:=c.toNat) (d:=default) hcl)
      obtain ⟨i1,i2,i3,i4,i5,i6⟩:=growL_ok (m:=m) (L:=L) (w:=w) (s:=s) (ab:=ab++[c]) (fun n q=>growF m L s n q (ab++[c])) (fun n q hq=>growF_ok hm hsome s n q (ab++[c]) hq (fun x hx=>by
        rw[List.mem_append,List.mem_singleton] at hx
        rcases hx with hx | rfl
        · exact hab x hx
        · exact hc.1)) (m.cls.getD c.toNat default).length (nodes++[leafN []]) (nextA L k) [] (nodes.length+1) (nextA_le hk) (by simp) (by rw[List.length_append,List.length_singleton];exact .nil _ _)
      generalize growL (fun n q=>growF m L s n q (ab++[c])) (m.cls.getD c.toNat default).length (nodes++[leafN []]) (nextA L k) []=r at *
      obtain ⟨nodes',k',ks⟩:=r
      dsimp only at *
      rw[List.length_append,List.length_singleton] at i2 i3 i4
      have hset:=fun i=>nd_set (P:=nodes') (x:=⟨c,ks,[],[],[]⟩) (i:=i) (j:=nodes.length) (by omega)
      refine⟨i1,by rw[List.length_set];omega,?_,fun i hi=>?_,?_⟩
      · rw[List.length_set,szB]
        have:(m.cls.getD c.toNat default).length * szB w s≤w * szB w s:=Nat.mul_le_mul_right _ hw.2
        omega
      · rw[hset,if_neg (by omega),i4 i (by omega),nd_app hi]
      · rw[List.length_set]
        refine .node _ _ _ c.toNat ks (by rw[hset,if_pos rfl,Int.toNat_of_nonneg hc.1]) hcl (by
          rw[Int.toNat_of_nonneg hc.1]
          intro h
          rw[List.contains_iff_mem.2 h] at d4
          cases d4) (by simpa using i6) ?_
        rw[Int.toNat_of_nonneg hc.1]
        exact i5.frame fun i h1 h2=>by rw[hset,if_neg (by omega)]
end T

