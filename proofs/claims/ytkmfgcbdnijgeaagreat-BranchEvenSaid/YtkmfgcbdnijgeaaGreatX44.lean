import Derived.Test.YtkmfgcbdnijgeaaGreatX33
import Derived.Test.YtkmfgcbdnijgeaaGreatX43
import Derived.Test.YtkmfgcbdnijgeaaGreatX35
import Derived.Test.YtkmfgcbdnijgeaaGreatX29
import Derived.Test.YtkmfgcbdnijgeaaGreatX28
import Derived.Test.YtkmfgcbdnijgeaaGreatX19
set_option linter.unusedVariables false
set_option linter.unusedSimpArgs false
set_option linter.unnecessarySimpa false
set_option linter.unusedSectionVars false
set_option maxHeartbeats 64000000
set_option maxRecDepth 20000
open Go Go.Am
open Go Go.Am Go.Proofs
open Nat (reduceEqDiff reduceAdd reduceLeDiff reduceMul)
open Int (reduceNeg reduceLE reduceToNat)
namespace T
def skipC (left:List (List Bool)):Nat→Nat→Nat
  | 0,c=>c
  | f+1,c=>if c<left.length∧(left.getD c default).length=1 then skipC left f (c+1) else c
def skipT (left:List (List Bool)) (c:Nat):Nat:=skipC left (left.length - c) c
theorem skipT_go {left:List (List Bool)} {c:Nat} (h:c<left.length∧(left.getD c default).length=1):skipT left c=skipT left (c+1):=by
  unfold skipT
  rw[show left.length - c=(left.length - (c+1))+1 by omega,skipC,if_pos h]
theorem skipT_end {left:List (List Bool)} {c:Nat} (h:¬(c<left.length∧(left.getD c default).length=1)):skipT left c=c:=by
  unfold skipT
  cases left.length - c with
  | zero=>rfl
  | succ f=>rw[skipC,if_neg h]
theorem skipT_ge {left:List (List Bool)}:∀ (k c:Nat),left.length - c=k→c≤skipT left c∧(c≤left.length→skipT left c≤left.length)∧(∀ j,c≤j→j<skipT left c→j<left.length∧(left.getD j default).length=1)∧(skipT left c<left.length→(left.getD (skipT left c) default).length≠1)
  | k,c,hk=>by
    by_cases h:c<left.length∧(left.getD c default).length=1
    · rw[skipT_go h]
      obtain ⟨a,b,d,e⟩:=skipT_ge (left:=left) (k - 1) (c+1) (by omega)
      refine⟨by omega,fun _=>b (by omega),fun j h1 h2=>?_,e⟩
      by_cases e2:j=c
      · subst e2;exact h
      · exact d j (by omega) h2
    · rw[skipT_end h]
      exact⟨Nat.le_refl _,fun h=>h,fun j h1 h2=>by omega,fun h1 h2=>h ⟨h1,h2⟩⟩
termination_by k c _=>left.length - c
def fstV:List Bool→Int→Int
  | [],_=>-1
  | b::r,i=>if b=true then i else fstV r (i+1)
def firstsV (left:List (List Bool)):List Int:=left.map fun l=>fstV l 0
structure DS where
  nodes:List Nd
  room:Int
  spl:Int
  whole:Bool
  plan:List Int
  tot:Int
  bnd:Int
def kidsD (f:List (List Bool)→DS→DS) (left:List (List Bool)) (c:Nat):Nat→Nat→DS→List Int→DS × List Int
  | 0,_,s,ks=>(s,ks)
  | w+1,o,s,ks=>kidsD f left c w (o+1) (f (onlyV left c o) s) (ks++[(s.nodes.length:Int)])
def splD (left:List (List Bool)) (c:Nat) (v:Int) (s:DS):DS:=⟨s.nodes++[leafN []],s.room - (left.getD c default).length,s.spl - 1,s.whole,s.plan,s.tot,s.bnd⟩
def finD (c j:Nat) (r:DS × List Int):DS:={ r.1 with nodes:=r.1.nodes.set j ⟨(c:Int),r.2,[],[],[]⟩ }
def downD (m:Mdl):Nat→Nat→List (List Bool)→DS→DS
  | 0,_,_,s=>s
  | f+1,c,left,s =>
    if s.tot≤priceV m left then { s with nodes:=s.nodes++[leafN []],bnd:=min s.bnd (priceV m left) }
    else if skipT left c=left.length then { s with nodes:=s.nodes++[leafN []],plan:=firstsV left,tot:=priceV m left,bnd:=min s.bnd (priceV m left) }
    else if s.spl=0∨s.room<(left.getD (skipT left c) default).length then { s with nodes:=s.nodes++[leafN []],whole:=false,bnd:=min s.bnd (priceV m left) }
    else finD (skipT left c) s.nodes.length (kidsD (downD m f (skipT left c+1)) left (skipT left c) (left.getD (skipT left c) default).length 0 (splD left (skipT left c) (priceV m left) s) [])
def totP (m:Mdl) (p:List Int):Int:=totalL (rulesV m p) 0
def bestK (f:List Int→List Int × Int) (p:List Int):Nat→Nat→List Int × Int→List Int × Int
  | 0,_,a=>a
  | w+1,k,a=>bestK f p w (k+1) (if (f (p++[(k:Int)])).2<a.2 then f (p++[(k:Int)]) else a)
def bestF (m:Mdl):Nat→List Int→List Int × Int
  | 0,p=>if 1099511627776≤totP m p then ([],1099511627776) else (p,totP m p)
  | d+1,p=>bestK (bestF m d) p (m.cls.getD p.length default).length 0 ([],1099511627776)
def foldK (f:List Int→List Int × Int→List Int × Int) (p:List Int):Nat→Nat→List Int × Int→List Int × Int
  | 0,_,a=>a
  | w+1,k,a=>foldK f p w (k+1) (f (p++[(k:Int)]) a)
def foldB (m:Mdl):Nat→List Int→List Int × Int→List Int × Int
  | 0,p,a=>if totP m p<a.2 then (p,totP m p) else a
  | d+1,p,a=>foldK (foldB m d) p (m.cls.getD p.length default).length 0 a
theorem bestK_fold {f:List Int→List Int × Int} {g:List Int→List Int × Int→List Int × Int} (p:List Int) (hg:∀ q a,a.2≤1099511627776→g q a=if (f q).2<a.2 then f q else a):∀ (w k:Nat) (a b:List Int × Int),b.2≤1099511627776 →
    foldK g p w k (if b.2<a.2 then b else a)=(if (bestK f p w k b).2<a.2 then bestK f p w k b else a)∨1099511627776<a.2
  | 0,k,a,b,hb=>.inl rfl
  | w+1,k,a,b,hb=>by
    by_cases ha:1099511627776<a.2
    · exact .inr ha
    rw[foldK,bestK,hg _ _ (by split<;>omega)]
    have h1:(if (f (p++[(k:Int)])).2<(if b.2<a.2 then b else a).2 then f (p++[(k:Int)]) else if b.2<a.2 then b else a)=(if (if (f (p++[(k:Int)])).2<b.2 then f (p++[(k:Int)]) else b).2<a.2 then (if (f (p++[(k:Int)])).2<b.2 then f (p++[(k:Int)]) else b) else a):=by
      generalize f (p++[(k:Int)])=x
      by_cases c1:b.2<a.2
      · rw[if_pos c1]
        by_cases c2:x.2<b.2
        · rw[if_pos c2,if_pos (by omega)]
        · rw[if_neg c2,if_pos c1]
      · rw[if_neg c1]
        by_cases c2:x.2<b.2
        · rw[if_pos c2]
        · rw[if_neg c2,if_neg c1,if_neg (by omega)]
    rw[h1]
    exact bestK_fold p hg w (k+1) a _ (by split<;>omega)
theorem foldB_best (m:Mdl):∀ (d:Nat) (p:List Int) (a:List Int × Int),a.2≤1099511627776→foldB m d p a=if (bestF m d p).2<a.2 then bestF m d p else a
  | 0,p,a,ha=>by
    unfold foldB bestF
    by_cases h:1099511627776≤totP m p
    · rw[if_pos h,if_neg (by omega),if_neg (by dsimp only;omega)]
    · rw[if_neg h]
  | d+1,p,a,ha=>by
    unfold foldB bestF
    have h:=(bestK_fold p (fun q b hb=>foldB_best m d q b hb) (m.cls.getD p.length default).length 0 a ([],1099511627776) (Int.le_refl _)).resolve_right (by omega)
    rw[if_neg (by dsimp only;omega)] at h
    exact h
def Ext (m:Mdl) (p q:List Int):Prop:=FP m q∧∃ r,q=p++r
theorem foldK_stay {f:List Int→List Int × Int→List Int × Int} {p:List Int} {a:List Int × Int}:∀ (w k:Nat),(∀ j,k≤j→j<k+w→f (p++[(j:Int)]) a=a)→foldK f p w k a=a
  | 0,k,h=>rfl
  | w+1,k,h=>by rw[foldK,h k (Nat.le_refl _) (by omega)];exact foldK_stay w (k+1) fun j h1 h2=>h j (by omega) (by omega)
structure BP (m:Mdl) (p:List Int):Prop where
  len:p.length≤m.cls.length
  get:∀ j,j<p.length→0≤p.getD j 0∧p.getD j 0<(m.cls.getD j default).length
theorem getD_appL {p q:List Int} {j:Nat} (h:j<p.length):(p++q).getD j 0=p.getD j 0:=by
  rw[List.getD_eq_getElem?_getD,List.getElem?_append_left h,← List.getD_eq_getElem?_getD]
theorem getD_appE {p:List Int} {x:Int}:(p++[x]).getD p.length 0=x:=by
  rw[List.getD_eq_getElem?_getD,List.getElem?_append_right (Nat.le_refl _),Nat.sub_self];rfl
theorem BP.snoc {m:Mdl} {p:List Int} (h:BP m p) {k:Nat} (h1:p.length<m.cls.length) (hk:k<(m.cls.getD p.length default).length):BP m (p++[(k:Int)]):=⟨by rw[List.length_append];exact h1,fun j hj=>by
  rw[List.length_append] at hj
  by_cases e:j<p.length
  · rw[getD_appL e];exact h.get j e
  · obtain rfl:j=p.length:=by simp at hj;omega
    rw[getD_appE];omega⟩
theorem BP.fp {m:Mdl} {p:List Int} (h:BP m p) (hl:p.length=m.cls.length):FP m p:=⟨hl,fun j hj=>optB_iff.2 (by
  have:=h.get j hj
  rw[Int.toNat_natCast]
  omega)⟩
theorem foldB_stay {m:Mdl}:∀ (d:Nat) (p:List Int) (a:List Int × Int),BP m p→p.length+d=m.cls.length→(∀ q,Ext m p q→a.2≤totP m q)→foldB m d p a=a
  | 0,p,a,hp,hd,h=>by
    have:=h p ⟨hp.fp (by omega),[],by simp⟩
    unfold foldB
    rw[if_neg (by omega)]
  | d+1,p,a,hp,hd,h=>by
    unfold foldB
    refine foldK_stay _ _ fun j _ hj=>?_
    refine foldB_stay d _ a (hp.snoc (by omega) (by omega)) (by rw[List.length_append];simp;omega) fun q hq=>h q ⟨hq.1,?_⟩
    obtain ⟨r,rfl⟩:=hq.2
    exact⟨(j:Int)::r,by simp⟩
end T
namespace T
def val0 (m:Mdl) (left:List (List Bool)):Int:=valV m left (S0 m,T0 m)
mutual
inductive Tr (m:Mdl) (P:List Nd):Nat→Nat→List (List Bool)→List Int→List Int→Prop
  | leaf (lo:Nat) (left:List (List Bool)) (ab:List Int) (h:nd P lo=leafN []) (ha:(-1:Int) ∉ ab):Tr m P lo (lo+1) left ab [val0 m left]
  | node (lo hi:Nat) (left:List (List Bool)) (ab:List Int) (c:Nat) (ks vs:List Int) (h:nd P lo=⟨c,ks,[],[],[]⟩) (hc:c<m.cls.length) (ha:(c:Int) ∉ ab) (hk:ks.length=(m.cls.getD c default).length) (hs:Trs m P (lo+1) hi left c (ab++[(c:Int)]) 0 ks vs):Tr m P lo hi left ab vs
inductive Trs (m:Mdl) (P:List Nd):Nat→Nat→List (List Bool)→Nat→List Int→Nat→List Int→List Int→Prop
  | nil (lo:Nat) (left:List (List Bool)) (c:Nat) (ab:List Int) (o:Nat):Trs m P lo lo left c ab o [] []
  | cons (lo mid hi:Nat) (left:List (List Bool)) (c:Nat) (ab:List Int) (o:Nat) (ks v vs:List Int) (h:Tr m P lo mid (onlyV left c o) ab v) (hs:Trs m P mid hi left c ab (o+1) ks vs):Trs m P lo hi left c ab o ((lo:Int)::ks) (v++vs)
end
variable {m:Mdl} {P P':List Nd} {lo mid hi c o:Nat} {left:List (List Bool)} {ab ks v w:List Int}
theorem Trs.snoc (h2:Tr m P mid hi (onlyV left c (o+ks.length)) ab w) (h:Trs m P lo mid left c ab o ks v):Trs m P lo hi left c ab o (ks++[(mid:Int)]) (v++w):=by
  induction ks generalizing lo o v with
  | nil =>
    cases h
    have:=Trs.cons _ _ _ left c ab o [] w [] h2 (.nil _ _ _ _ _)
    simpa using this
  | cons k ks ih =>
    cases h with
    | cons _ mid' _ _ _ _ _ _ v1 vs h1 hs =>
      rw[List.append_assoc]
      exact .cons _ _ _ _ _ _ _ _ _ _ h1 (ih (by rw[List.length_cons] at h2;rwa [show o+1+ks.length=o+(ks.length+1) by omega]) hs)
mutual
theorem Tr.seg {lo hi:Nat} {left:List (List Bool)} {ab v:List Int}:Tr m P lo hi left ab v→Seg m P (fun _=>True) lo hi ab
  | .leaf _ _ _ h ha=>.leaf _ _ [] h (Nat.zero_le _) (fun _ h=>by cases h) ha trivial
  | .node _ _ _ _ c ks _ h hc ha hk hs=>.node _ _ _ c ks h hc ha hk hs.segs
theorem Trs.segs {lo hi c o:Nat} {left:List (List Bool)} {ab ks v:List Int}:Trs m P lo hi left c ab o ks v→Segs m P (fun _=>True) lo hi ab ks
  | .nil _ _ _ _ _=>.nil _ _
  | .cons _ mid _ _ _ _ _ _ _ _ h hs=>.cons _ mid _ _ _ h.seg hs.segs
end
mutual
theorem Tr.frame {lo hi:Nat} {left:List (List Bool)} {ab v:List Int}:Tr m P lo hi left ab v→(∀ i,lo≤i→i<hi→nd P' i=nd P i)→Tr m P' lo hi left ab v
  | .leaf _ _ _ h ha,hf=>.leaf _ _ _ ((hf _ (Nat.le_refl _) (Nat.lt_succ_self _)).trans h) ha
  | .node _ _ _ _ c ks _ h hc ha hk hs,hf=>.node _ _ _ _ c ks _ ((hf _ (Nat.le_refl _) (by have:=hs.segs.le;omega)).trans h) hc ha hk (hs.frame fun i h1 h2=>hf i (by omega) h2)
theorem Trs.frame {lo hi c o:Nat} {left:List (List Bool)} {ab ks v:List Int}:Trs m P lo hi left c ab o ks v→(∀ i,lo≤i→i<hi→nd P' i=nd P i)→Trs m P' lo hi left c ab o ks v
  | .nil _ _ _ _ _,_=>.nil _ _ _ _ _
  | .cons _ mid _ _ _ _ _ _ _ _ h hs,hf=>.cons _ mid _ _ _ _ _ _ _ _ (h.frame fun i h1 h2=>hf i h1 (by have:=hs.segs.le;omega)) (hs.frame fun i h1 h2=>hf i (by have:=h.seg.lt;omega) h2)
end
def LeafOf (m:Mdl) (P:List Nd) (t:St3) (x:Int):Prop:=(nd P t.1).cls = -1∧(nd P t.1).mvs=[]∧(nd P t.1).grp=[]∧val0 m t.2.1=x
mutual
theorem Tr.leaves {lo hi:Nat} {left:List (List Bool)} {ab v:List Int} (hd:Down P):Tr m P lo hi left ab v→hi≤P.length→(∀ t∈vs P (lo,left,ab),(nd P t.1).cls = -1→∃ x∈v,LeafOf m P t x)∧∀ x∈v,∃ t∈vs P (lo,left,ab),LeafOf m P t x
  | .leaf lo left ab h ha,hh=>by
    rw[vs_leaf hd (by show lo<_;omega) (by show (nd P lo).kids=[];rw[h];rfl)]
    have hl:LeafOf m P (lo,left,ab) (val0 m left):=⟨by show (nd P lo).cls = -1;rw[h];rfl,by show (nd P lo).mvs=[];rw[h];rfl,by show (nd P lo).grp=[];rw[h];rfl,rfl⟩
    constructor
    · intro t ht _
      rw[List.mem_singleton] at ht
      subst ht
      exact⟨_,by simp,hl⟩
    · intro x hx
      rw[List.mem_singleton] at hx
      subst hx
      exact⟨_,by simp,hl⟩
  | .node lo hi left ab c ks vl h hc ha hk hs,hh=>by
    have hle:=hs.segs.le
    obtain ⟨i1,i2⟩:=hs.leaves hd hh
    have hks:∀ o,kidS P (lo,left,ab) o=((ks.getD o 0).toNat,onlyV left c o,ab++[(c:Int)]):=fun o=>by
      unfold kidS
      dsimp only
      rw[h];rfl
    have hkl:(nd P lo).kids=ks:=by rw[h]
    rw[vs_step hd (by show lo<_;omega)]
    constructor
    · intro t ht hcl
      rw[List.mem_cons] at ht
      rcases ht with rfl | ht
      · dsimp only at hcl
        rw[h] at hcl
        exact absurd (show (c:Int) = -1 from hcl) (by omega)
      · obtain ⟨u,hu,ht⟩:=List.mem_flatMap.1 ht
        obtain ⟨o,ho,rfl⟩:=kid_mem (List.mem_reverse.1 hu)
        dsimp only at ho
        rw[hkl] at ho
        rw[hks] at ht
        rw[← Nat.zero_add o] at ht
        exact i1 o ho t (by simpa using ht) hcl
    · intro x hx
      obtain ⟨o,ho,t,ht,hl⟩:=i2 x hx
      rw[Nat.zero_add] at ht
      refine⟨t,List.mem_cons_of_mem _ (List.mem_flatMap.2 ⟨kidS P (lo,left,ab) o,List.mem_reverse.2 ?_,by rw[hks];exact ht⟩),hl⟩
      unfold kidsF kidsT
      exact List.mem_map.2 ⟨o,List.mem_range.2 (by show o<(nd P lo).kids.length;rw[hkl];exact ho),rfl⟩
theorem Trs.leaves {lo hi c o:Nat} {left:List (List Bool)} {ab ks v:List Int} (hd:Down P):Trs m P lo hi left c ab o ks v→hi≤P.length→(∀ i,i<ks.length→∀ t∈vs P ((ks.getD i 0).toNat,onlyV left c (o+i),ab),(nd P t.1).cls = -1→∃ x∈v,LeafOf m P t x)∧∀ x∈v,∃ i,i<ks.length∧∃ t∈vs P ((ks.getD i 0).toNat,onlyV left c (o+i),ab),LeafOf m P t x
  | .nil _ _ _ _ _,_=>⟨fun i hi=>(by cases hi),fun x hx=>(by cases hx)⟩
  | .cons lo mid hi left c ab o ks v w h hs,hh=>by
    have hle:=hs.segs.le
    obtain ⟨a1,a2⟩:=h.leaves hd (by omega)
    obtain ⟨b1,b2⟩:=hs.leaves hd hh
    constructor
    · intro i hi t ht hcl
      cases i with
      | zero =>
        rw[List.getD_cons_zero,Int.toNat_natCast] at ht
        obtain ⟨x,hx,hl⟩:=a1 t ht hcl
        exact⟨x,List.mem_append_left _ hx,hl⟩
      | succ i =>
        rw[List.getD_cons_succ,show o+(i+1)=o+1+i by omega] at ht
        obtain ⟨x,hx,hl⟩:=b1 i (by simpa using hi) t ht hcl
        exact⟨x,List.mem_append_right _ hx,hl⟩
    · intro x hx
      rcases List.mem_append.1 hx with hx | hx
      · obtain ⟨t,ht,hl⟩:=a2 x hx
        exact⟨0,by simp,t,by rw[List.getD_cons_zero,Int.toNat_natCast];exact ht,hl⟩
      · obtain ⟨i,hi,t,ht,hl⟩:=b2 x hx
        exact⟨i+1,by simpa using hi,t,by rw[List.getD_cons_succ,show o+(i+1)=o+1+i by omega];exact ht,hl⟩
end
def minL (l:List Int) (b:Int):Int:=l.foldl min b
theorem minL_le:∀ (l:List Int) (b:Int),minL l b≤b∧(∀ x∈l,minL l b≤x)∧(minL l b=b∨minL l b∈l)
  | [],b=>⟨Int.le_refl _,fun _ h=>(by cases h),.inl rfl⟩
  | x::l,b=>by
    obtain ⟨h1,h2,h3⟩:=minL_le l (min b x)
    have e:minL (x::l) b=minL l (min b x):=rfl
    rw[e]
    refine⟨by omega,fun y hy=>?_,?_⟩
    · rcases List.mem_cons.1 hy with rfl | hy
      · omega
      · exact h2 y hy
    · rcases h3 with h3 | h3
      · rcases Int.le_total b x with hb | hb
        · left;rw[h3];omega
        · right;rw[h3,Int.min_eq_right hb];simp
      · right;simp[h3]
theorem minL_app (l k:List Int) (b:Int):minL (l++k) b=minL k (minL l b):=List.foldl_append
theorem Tr.chk (hm:VM m) {v:List Int} (h:Tr m P 0 P.length (allT m) [] v) (hn:P.length≤20000):chkV m P=(minL v 1099511627776,true):=by
  have hsh:=h.seg.shaped hn
  have hd:=shaped_down hsh
  obtain ⟨n,h1,h2⟩:=h.seg.chk hm hn
  obtain ⟨l1,l2⟩:=h.leaves hd (Nat.le_refl _)
  obtain ⟨_,_,hr⟩:=chkV_iff h1
  obtain ⟨q1,q2⟩:=chk_leaf hr
  obtain ⟨m1,m2,m3⟩:=minL_le v 1099511627776
  have e1:minL v 1099511627776≤n:=h2 _ m1 fun s hs hcl=>by
    obtain ⟨x,hx,_,hmv,_,hv⟩:=l1 s hs hcl
    rw[hmv,leaf_nil]
    have:=m2 x hx
    unfold val0 at hv
    dsimp only
    omega
  have e2:n≤minL v 1099511627776:=by
    rcases m3 with e | e
    · omega
    · obtain ⟨t,ht,hcl,hmv,hgr,hv⟩:=l2 _ e
      have:=(q2 t ht).2 hcl
      rw[hgr,if_neg (by simp),hmv,leaf_nil] at this
      unfold val0 at hv
      dsimp only at this
      omega
  rw[h1,show n=minL v 1099511627776 by omega]
end T
namespace T
structure Dn (m:Mdl) (left:List (List Bool)) (p:List Int):Prop where
  fit:FitsP m left
  bp:BP m p
  one:∀ j,j<p.length→left.getD j default=onlyR (m.cls.getD j default).length (p.getD j 0).toNat
  all:∀ j,p.length≤j→j<m.cls.length→left.getD j default=List.replicate (m.cls.getD j default).length true
variable {m:Mdl} {left:List (List Bool)} {p:List Int}
theorem Dn.root (hm:VM m):Dn m (allT m) []:=by
  refine⟨all_fits hm,⟨Nat.zero_le _,fun j hj=>(by cases hj)⟩,fun j hj=>(by cases hj),fun j _ hj=>?_⟩
  unfold allT allV
  rw[if_pos (valid_iff.2 hm),map_getD _ _ _ hj]
theorem getD_ne {left:List (List Bool)} {c j:Nat} (x:List Bool) (h:c≠j):(left.set c x).getD j default=left.getD j default:=by
  rw[List.getD_eq_getElem?_getD,List.getElem?_set_ne h,← List.getD_eq_getElem?_getD]
theorem Dn.next (h:Dn m left p) (hc:p.length<m.cls.length) {k:Nat} (hk:k<(m.cls.getD p.length default).length):Dn m (onlyV left p.length k) (p++[(k:Int)]):=by
  refine⟨fits_map h.fit (onlyV_len _ _ _),h.bp.snoc hc hk,fun j hj=>?_,fun j h1 h2=>?_⟩
  · unfold onlyV
    rw[List.length_append] at hj
    by_cases e:j<p.length
    · rw[getD_ne _ (by omega),getD_appL e];exact h.one j e
    · obtain rfl:j=p.length:=by simp at hj;omega
      rw[getD_set _ _ _ (by rw[h.fit.1];exact hc),getD_appE,h.fit.2 _ (by rw[h.fit.1];exact hc)];rfl
  · unfold onlyV
    rw[List.length_append] at h1
    rw[getD_ne _ (by simp at h1;omega)]
    exact h.all j (by omega) h2
theorem Dn.single (h:Dn m left p) (hc:p.length<left.length) (h1:(left.getD p.length default).length=1):Dn m left (p++[0]):=by
  have hc':p.length<m.cls.length:=by rw[← h.fit.1];exact hc
  have hl:=h.fit.2 _ hc
  refine⟨h.fit,h.bp.snoc (k:=0) hc' (by omega),fun j hj=>?_,fun j h2 h3=>h.all j (by rw[List.length_append] at h2;omega) h3⟩
  rw[List.length_append] at hj
  by_cases e:j<p.length
  · rw[getD_appL e];exact h.one j e
  · obtain rfl:j=p.length:=by simp at hj;omega
    rw[getD_appE,h.all _ (Nat.le_refl _) hc',← hl,h1];rfl
theorem Dn.skip:∀ (k:Nat) (p:List Int),left.length - p.length=k→Dn m left p→∃ r:List Int,Dn m left (p++r)∧(p++r).length=skipT left p.length∧∀ a,foldB m (m.cls.length - p.length) p a=foldB m (m.cls.length - (p++r).length) (p++r) a
  | k,p,hk,h=>by
    by_cases hc:p.length<left.length∧(left.getD p.length default).length=1
    · have h1:=h.single hc.1 hc.2
      obtain ⟨r,a1,a2,a3⟩:=Dn.skip (k - 1) (p++[0]) (by rw[List.length_append];simp;omega) h1
      have e:p++[0]++r=p++(0::r):=by simp
      rw[e] at a1 a2 a3
      refine⟨0::r,a1,?_,fun a=>?_⟩
      · rw[skipT_go hc,a2];simp
      · rw[← a3 a]
        have hl:=h.fit.2 _ hc.1
        have hlt:p.length<m.cls.length:=by rw[← h.fit.1];exact hc.1
        rw[show m.cls.length - p.length=(m.cls.length - (p++[0]).length)+1 by simp;omega,foldB,← hl,hc.2];rfl
    · exact⟨[],by simpa using h,by rw[skipT_end hc];simp,fun a=>by simp⟩
termination_by k p _ _=>left.length - p.length
decreasing_by simp;omega
theorem Dn.inp (h:Dn m left p) {q:List Int} (hq:Ext m p q):InP m left q:=fun i hi=>by
  obtain ⟨hf,r,rfl⟩:=hq
  have hg:=optB_iff.1 (hf.get i (by rw[hf.len];exact hi))
  rw[Int.toNat_natCast] at hg
  by_cases e:i<p.length
  · have:=h.bp.get i e
    rw[h.one i e,getD_appL e,onlyR_get (by omega),decide_eq_true rfl]
  · rw[h.all i (by omega) hi,List.getD_eq_getElem?_getD,List.getElem?_replicate,if_pos (by omega)];rfl
theorem fstV_only:∀ (w o:Nat) (i:Int),o<w→fstV (onlyR w o) i=i+o
  | 0,o,i,h=>by omega
  | w+1,0,i,h=>by
    unfold onlyR
    rw[List.replicate_succ,List.set_cons_zero,fstV,if_pos rfl];simp
  | w+1,o+1,i,h=>by
    have:=fstV_only w o (i+1) (by omega)
    unfold onlyR at *
    rw[List.replicate_succ,List.set_cons_succ,fstV,if_neg (by simp),this];omega
theorem Dn.firsts (h:Dn m left p) (hl:p.length=m.cls.length):firstsV left=p:=by
  unfold firstsV
  apply List.ext_getElem
  · rw[List.length_map,h.fit.1,hl]
  · intro i h1 h2
    rw[List.getElem_map]
    have a1:=h.one i h2
    have a2:=h.bp.get i h2
    have e1:left[i]'(by rw[List.length_map] at h1;exact h1)=left.getD i default:=by
      rw[List.getD_eq_getElem?_getD,List.getElem?_eq_getElem (by rw[List.length_map] at h1;exact h1)];rfl
    have e2:p[i]=p.getD i 0:=by rw[List.getD_eq_getElem?_getD,List.getElem?_eq_getElem h2];rfl
    rw[e1,e2,a1,fstV_only _ _ _ (by omega)]
    omega
theorem Dn.onep (h:Dn m left p) (hl:p.length=m.cls.length):OneP m left p:=fun i hi j=>by
  have:=h.bp.get i (by omega)
  rw[h.one i (by omega),onlyR_get (by omega)]
theorem Dn.bound (hm:VM m) (h:Dn m left p) {q:List Int} (hq:Ext m p q):priceV m left≤totP m q:=by
  rw[price_eq hm h.fit]
  exact bound_law hm hq.1 left h.fit (h.inp hq) [] (fun _ h=>by cases h)
theorem Dn.exact (hm:VM m) (h:Dn m left p) (hl:p.length=m.cls.length):priceV m left=totP m p:=by
  rw[price_eq hm h.fit]
  exact exact_law hm (h.bp.fp hl) left h.fit (h.onep hl) [] (fun _ h=>by cases h)
structure DL (m:Mdl) (left:List (List Bool)) (p:List Int) (s r:DS):Prop where
  tot:r.tot≤s.tot
  bl:r.bnd≤s.bnd
  bt:r.tot<s.tot→r.bnd≤r.tot
  wh:r.whole=true→s.whole=true∧(r.plan,r.tot)=foldB m (m.cls.length - p.length) p (s.plan,s.tot)∧min s.bnd r.tot≤r.bnd
  room:(r.nodes.length:Int)+r.room=s.nodes.length+s.room+1
  rm0:0≤s.room→0≤r.room
  lt:s.nodes.length<r.nodes.length
  pre:∀ i,i<s.nodes.length→nd r.nodes i=nd s.nodes i
  tr:∀ ab:List Int,(∀ x∈ab,0≤x∧x<p.length)→∃ v,Tr m r.nodes s.nodes.length r.nodes.length left ab v∧r.bnd=minL v s.bnd
theorem DL.leaf (hm:VM m) (h:FitsP m left) {s r:DS} (hn:r.nodes=s.nodes++[leafN []]) (hr:r.room=s.room) (hb:r.bnd=min s.bnd (priceV m left)) (ht:r.tot≤s.tot) (hbt:r.tot<s.tot→r.tot=priceV m left)
    (hw:r.whole=true→s.whole=true∧(r.plan,r.tot)=foldB m (m.cls.length - p.length) p (s.plan,s.tot)∧r.tot≤priceV m left):DL m left p s r:=by
  refine⟨ht,by omega,fun h=>by have:=hbt h;omega,fun h=>?_,by rw[hn,hr];simp;omega,fun h=>by omega,by rw[hn];simp,fun i hi=>by rw[hn];exact nd_app hi,fun ab hab=>⟨[val0 m left],?_,?_⟩⟩
  · obtain ⟨a,b,c⟩:=hw h
    exact⟨a,b,by omega⟩
  · rw[hn,List.length_append]
    exact .leaf _ _ _ nd_last (fun h=>by have:=hab _ h;omega)
  · rw[hb];unfold minL val0;rw[price_eq hm h];rfl
theorem kidsD_ok {f:List (List Bool)→DS→DS} {ab:List Int} (hf:∀ k s,k<(m.cls.getD p.length default).length→DL m (onlyV left p.length k) (p++[(k:Int)]) s (f (onlyV left p.length k) s))
    (hab:∀ x∈ab,0≤x∧x<p.length+1):∀ (w o:Nat) (s:DS) (ks:List Int) (lo:Nat) (v:List Int),o+w=(m.cls.getD p.length default).length→ks.length=o→lo≤s.nodes.length→Trs m s.nodes lo s.nodes.length left p.length ab 0 ks v →
    (kidsD f left p.length w o s ks).1.tot≤s.tot∧(kidsD f left p.length w o s ks).1.bnd≤s.bnd∧((kidsD f left p.length w o s ks).1.tot<s.tot→(kidsD f left p.length w o s ks).1.bnd≤(kidsD f left p.length w o s ks).1.tot) ∧
    ((kidsD f left p.length w o s ks).1.whole=true→s.whole=true∧((kidsD f left p.length w o s ks).1.plan,(kidsD f left p.length w o s ks).1.tot)=foldK (foldB m (m.cls.length - (p.length+1))) p w o (s.plan,s.tot)∧min s.bnd (kidsD f left p.length w o s ks).1.tot≤(kidsD f left p.length w o s ks).1.bnd) ∧
    (((kidsD f left p.length w o s ks).1.nodes.length:Int)+(kidsD f left p.length w o s ks).1.room=s.nodes.length+s.room+w)∧(0≤s.room→0≤(kidsD f left p.length w o s ks).1.room)∧s.nodes.length≤(kidsD f left p.length w o s ks).1.nodes.length ∧
    (∀ i,i<s.nodes.length→nd (kidsD f left p.length w o s ks).1.nodes i=nd s.nodes i)∧(kidsD f left p.length w o s ks).2.length=o+w ∧
    ∃ u,Trs m (kidsD f left p.length w o s ks).1.nodes lo (kidsD f left p.length w o s ks).1.nodes.length left p.length ab 0 (kidsD f left p.length w o s ks).2 (v++u)∧(kidsD f left p.length w o s ks).1.bnd=minL u s.bnd
  | 0,o,s,ks,lo,v,ho,hk,hlo,hs=>⟨Int.le_refl _,Int.le_refl _,fun h=>absurd h (Int.lt_irrefl _),fun h=>⟨h,rfl,by show min s.bnd s.tot≤s.bnd;omega⟩,by show (s.nodes.length:Int)+s.room=_;simp,fun h=>h,Nat.le_refl _,fun _ _=>rfl,hk,[],by simpa [kidsD] using hs,rfl⟩
  | w+1,o,s,ks,lo,v,ho,hk,hlo,hs=>by
    have h:=hf o s (by omega)
    generalize hr:f (onlyV left p.length o) s=r at h
    have hl2:(p++[(o:Int)]).length=p.length+1:=by simp
    obtain ⟨t1,t2,t3,t4,t5,t6,t7,t8,t9⟩:=h
    obtain ⟨u,hu,hub⟩:=t9 ab fun x hx=>by rw[hl2];exact hab x hx
    have hs2:=Trs.snoc (ks:=ks) (o:=0) (by rw[hk,Nat.zero_add];exact hu) (hs.frame fun i _ h2=>t8 i h2)
    obtain ⟨i1,i2,i3,i4,i5,i6,i7,i8,i9,u2,i10,i11⟩:=kidsD_ok hf hab w (o+1) r (ks++[(s.nodes.length:Int)]) lo (v++u) (by omega) (by simp[hk]) (by omega) hs2
    rw[kidsD,hr]
    generalize kidsD f left p.length w (o+1) r (ks++[(s.nodes.length:Int)])=z at *
    refine⟨by omega,by omega,fun hlt=>?_,fun hw=>?_,by omega,fun h=>i6 (t6 h),by omega,fun i hi=>(i8 i (by omega)).trans (t8 i hi),by omega,u++u2,by rw[← List.append_assoc];exact i10,by rw[i11,hub,minL_app]⟩
    · by_cases e:z.1.tot<r.tot
      · exact i3 e
      · have:=t3 (by omega);omega
    · obtain ⟨a1,a2,a3⟩:=i4 hw
      obtain ⟨b1,b2,b3⟩:=t4 a1
      refine⟨b1,?_,by omega⟩
      rw[a2,foldK]
      rw[hl2] at b2
      rw[b2]
theorem downD_ok (hm:VM m):∀ (f:Nat) (left:List (List Bool)) (p:List Int) (s:DS),left.length+1≤f+p.length→Dn m left p→DL m left p s (downD m f p.length left s)
  | 0,left,p,s,hf,h=>by have:=h.bp.len;rw[← h.fit.1] at this;omega
  | f+1,left,p,s,hf,h=>by
    obtain ⟨r,h1,h2,h3⟩:=Dn.skip (left:=left) _ p rfl h
    obtain ⟨g1,g2,g3,g4⟩:=skipT_ge (left:=left) _ p.length rfl
    have hpl:p.length≤left.length:=by rw[h.fit.1];exact h.bp.len
    have hfit:=h.fit
    rw[downD]
    split
    · rename_i hv
      refine DL.leaf hm hfit rfl rfl rfl (Int.le_refl _) (fun h=>absurd h (Int.lt_irrefl _)) fun hw=>⟨hw,?_,hv⟩
      exact (foldB_stay _ p (s.plan,s.tot) h.bp (by have:=h.bp.len;omega) fun q hq=>Int.le_trans hv (h.bound hm hq)).symm
    rename_i hv
    split
    · rename_i he
      have hpe:(p++r).length=m.cls.length:=by rw[h2,he,hfit.1]
      refine DL.leaf hm hfit rfl rfl rfl (by dsimp only;omega) (fun _=>rfl) fun hw=>⟨hw,?_,Int.le_refl _⟩
      rw[h3,hpe,Nat.sub_self,foldB,← h1.exact hm hpe,if_pos (by dsimp only;omega),h1.firsts hpe]
    rename_i he
    split
    · exact DL.leaf hm hfit rfl rfl rfl (Int.le_refl _) (fun h=>absurd h (Int.lt_irrefl _)) fun hw=>by cases hw
    rename_i hrm
    rw[not_or] at hrm
    rw[← h2] at he hrm ⊢
    have hlt:(p++r).length<m.cls.length:=by
      have:=h1.bp.len
      rw[hfit.1] at he
      omega
    have hrow:(left.getD (p++r).length default).length=(m.cls.getD (p++r).length default).length:=hfit.2 _ (by rw[hfit.1];exact hlt)
    have hple:p.length≤(p++r).length:=by simp
    generalize hP:p++r=P at *
    have hK:=fun ab hab=>kidsD_ok (m:=m) (left:=left) (p:=P) (f:=downD m f (P.length+1)) (ab:=ab) (fun k s' hk=>by
      have:=downD_ok hm f (onlyV left P.length k) (P++[(k:Int)]) s' (by rw[show (onlyV left P.length k).length=left.length by unfold onlyV;simp];simp;omega) (h1.next hlt hk)
      rwa [show (P++[(k:Int)]).length=P.length+1 by simp] at this) hab (left.getD P.length default).length 0 (splD left P.length (priceV m left) s) [] (splD left P.length (priceV m left) s).nodes.length [] (by omega) rfl (Nat.le_refl _) (.nil _ _ _ _ _)
    obtain ⟨i1,i2,i3,i4,i5,i6,i7,i8,i9,_⟩:=hK [] (fun x hx=>by cases hx)
    have htr:=fun ab hab=>(hK ab hab).2.2.2.2.2.2.2.2.2
    clear hK
    generalize kidsD (downD m f (P.length+1)) left P.length (left.getD P.length default).length 0 (splD left P.length (priceV m left) s) []=z at *
    unfold splD at *
    dsimp only at *
    have hnl:(s.nodes++[leafN []]).length=s.nodes.length+1:=by simp
    rw[hnl] at i5 i7 i8
    have hpre:∀ i,i≠s.nodes.length→nd (finD P.length s.nodes.length z).nodes i=nd z.1.nodes i:=fun i hi=>by
      unfold finD
      rw[nd_set (by omega),if_neg hi]
    have hat:nd (finD P.length s.nodes.length z).nodes s.nodes.length=⟨(P.length:Int),z.2,[],[],[]⟩:=by
      unfold finD
      rw[nd_set (by omega),if_pos rfl]
    have hzl:(finD P.length s.nodes.length z).nodes.length=z.1.nodes.length:=by unfold finD;simp
    refine⟨i1,i2,i3,fun hw=>?_,by rw[hzl];show (z.1.nodes.length:Int)+z.1.room=_;omega,fun h=>i6 (by omega),by rw[hzl];omega,fun i hi=>?_,fun ab hab=>?_⟩
    · obtain ⟨a1,a2,a3⟩:=i4 hw
      refine⟨a1,?_,a3⟩
      rw[h3,show m.cls.length - P.length=(m.cls.length - (P.length+1))+1 by omega,foldB,← hrow]
      exact a2
    · rw[hpre i (by omega),i8 i (by omega)];exact nd_app hi
    · obtain ⟨u,hu,hb⟩:=htr (ab++[(P.length:Int)]) fun x hx=>by
        rcases List.mem_append.1 hx with hx | hx
        · have:=hab x hx;omega
        · rw[List.mem_singleton] at hx;omega
      rw[List.nil_append,hnl] at hu
      refine⟨u,?_,hb⟩
      rw[hzl]
      refine .node _ _ _ _ P.length z.2 _ hat hlt (fun hx=>by have:=hab _ hx;omega) (by rw[i9];omega) ?_
      exact hu.frame fun i h1 _=>hpre i (by omega)
end T
namespace T
def capQ (m:Mdl):Nat→Nat
  | 0=>1
  | d+1=>(m.cls.getD (m.cls.length - (d+1)) default).length * capQ m d
variable {m:Mdl} {left:List (List Bool)} {p:List Int}
theorem capQ_at {c:Nat} (h:c<m.cls.length):capQ m (m.cls.length - c)=(m.cls.getD c default).length * capQ m (m.cls.length - (c+1)):=by
  rw[show m.cls.length - c=(m.cls.length - (c+1))+1 by omega,capQ,show m.cls.length - (m.cls.length - (c+1)+1)=c by omega]
theorem capQ_pos (hsome:∀ l∈m.cls,1≤l.length):∀ d,d≤m.cls.length→1≤capQ m d
  | 0,_=>Nat.le_refl _
  | d+1,h=>Nat.mul_pos (hsome _ (getD_mem (by omega))) (capQ_pos hsome d (by omega))
theorem capQ_skip:∀ (k a b:Nat),b - a=k→a≤b→b≤m.cls.length→(∀ j,a≤j→j<b→(m.cls.getD j default).length=1)→capQ m (m.cls.length - a)=capQ m (m.cls.length - b)
  | 0,a,b,hk,h1,h2,h=>by rw[show a=b by omega]
  | k+1,a,b,hk,h1,h2,h=>by
    rw[capQ_at (by omega),h a (Nat.le_refl _) (by omega),Nat.one_mul]
    exact capQ_skip k (a+1) b (by omega) (by omega) h2 fun j h3 h4=>h j (by omega) h4
theorem kidsD_whole {f:List (List Bool)→DS→DS} {c N Q:Nat} (hf:∀ k s,k<N→s.whole=true→(2 * Q - 2:Int)≤s.room→(Q - 1:Int)≤s.spl→(f (onlyV left c k) s).whole=true∧s.room - (2 * Q - 2)≤(f (onlyV left c k) s).room∧s.spl - (Q - 1)≤(f (onlyV left c k) s).spl) (hQ:1≤Q) :
    ∀ (w o:Nat) (s:DS) (ks:List Int),o+w=N→s.whole=true→(w:Int) * (2 * Q - 2)≤s.room→(w:Int) * (Q - 1)≤s.spl→(kidsD f left c w o s ks).1.whole=true∧s.room - (w:Int) * (2 * Q - 2)≤(kidsD f left c w o s ks).1.room∧s.spl - (w:Int) * (Q - 1)≤(kidsD f left c w o s ks).1.spl
  | 0,o,s,ks,ho,h1,h2,h3=>⟨h1,by show s.room - _≤s.room;omega,by show s.spl - _≤s.spl;omega⟩
  | w+1,o,s,ks,ho,h1,h2,h3=>by
    have e1:((w+1:Nat):Int) * (2 * Q - 2)=(w:Int) * (2 * Q - 2)+(2 * Q - 2):=by rw[Int.natCast_add,Int.add_mul];simp
    have e2:((w+1:Nat):Int) * (Q - 1)=(w:Int) * (Q - 1)+(Q - 1):=by rw[Int.natCast_add,Int.add_mul];simp
    have p1:0≤(w:Int) * (2 * Q - 2):=Int.mul_nonneg (by omega) (by omega)
    have p2:0≤(w:Int) * (Q - 1):=Int.mul_nonneg (by omega) (by omega)
    rw[e1] at h2 ⊢
    rw[e2] at h3 ⊢
    obtain ⟨a,b,c'⟩:=hf o s (by omega) h1 (by omega) (by omega)
    obtain ⟨x,y,z⟩:=kidsD_whole hf hQ w (o+1) (f (onlyV left c o) s) (ks++[(s.nodes.length:Int)]) (by omega) a (by omega) (by omega)
    rw[kidsD]
    exact⟨x,by omega,by omega⟩
theorem downD_whole (hm:VM m) (hsome:∀ l∈m.cls,1≤l.length):∀ (f:Nat) (left:List (List Bool)) (p:List Int) (s:DS),left.length+1≤f+p.length→Dn m left p→s.whole=true→(2 * capQ m (m.cls.length - p.length) - 2:Int)≤s.room→(capQ m (m.cls.length - p.length) - 1:Int)≤s.spl →
    (downD m f p.length left s).whole=true∧s.room - (2 * capQ m (m.cls.length - p.length) - 2)≤(downD m f p.length left s).room∧s.spl - (capQ m (m.cls.length - p.length) - 1)≤(downD m f p.length left s).spl
  | 0,left,p,s,hf,h,_,_,_=>by have:=h.bp.len;rw[← h.fit.1] at this;omega
  | f+1,left,p,s,hf,h,hw,hr,hs=>by
    obtain ⟨r,h1,h2,h3⟩:=Dn.skip (left:=left) _ p rfl h
    obtain ⟨g1,g2,g3,g4⟩:=skipT_ge (left:=left) _ p.length rfl
    have hfit:=h.fit
    have hq1:=capQ_pos hsome (m.cls.length - p.length) (by omega)
    rw[downD]
    split
    · exact⟨hw,by show _≤s.room;omega,by show _≤s.spl;omega⟩
    split
    · exact⟨hw,by show _≤s.room;omega,by show _≤s.spl;omega⟩
    rename_i he
    rw[← h2] at he g1 g3 g4 ⊢
    have hple:p.length≤(p++r).length:=by simp
    have hlt:(p++r).length<m.cls.length:=by
      have:=h1.bp.len
      rw[hfit.1] at he
      omega
    have hrow:(left.getD (p++r).length default).length=(m.cls.getD (p++r).length default).length:=hfit.2 _ (by rw[hfit.1];exact hlt)
    have hcs:=capQ_skip (m:=m) _ p.length (p++r).length rfl hple (by omega) fun j h4 h5=>by rw[← hfit.2 j (g3 j h4 h5).1];exact (g3 j h4 h5).2
    rw[hcs] at hr hs hq1 ⊢
    generalize hP:p++r=P at *
    have hn2:2≤(m.cls.getD P.length default).length:=by
      have:=hsome _ (getD_mem (d:=default) hlt)
      have:=g4 (by rw[hfit.1];exact hlt)
      omega
    rw[capQ_at hlt] at hr hs hq1 ⊢
    have hQ:=capQ_pos hsome (m.cls.length - (P.length+1)) (by omega)
    have ih:=fun k s' hk=>downD_whole hm hsome f (onlyV left P.length k) (P++[(k:Int)]) s' (by rw[show (onlyV left P.length k).length=left.length by unfold onlyV;simp];simp;omega) (h1.next hlt hk)
    simp only[List.length_append,List.length_singleton] at ih
    generalize hq:capQ m (m.cls.length - (P.length+1))=Q at *
    generalize hN:(m.cls.getD P.length default).length=N at *
    have hmul:((N * Q:Nat):Int)=(N:Int) * Q:=by rw[Int.natCast_mul]
    rw[hmul] at hr hs ⊢
    have hge:(N:Int) * 1≤(N:Int) * Q:=Int.mul_le_mul_of_nonneg_left (by omega) (by omega)
    have e1:(N:Int) * (2 * Q - 2)=2 * ((N:Int) * Q) - 2 * N:=by rw[Int.mul_sub,Int.mul_left_comm];omega
    have e2:(N:Int) * (Q - 1)=(N:Int) * Q - N:=by rw[Int.mul_sub];omega
    rw[hrow]
    split
    · rename_i hbad
      rcases hbad with hbad | hbad<;>omega
    have hK:=kidsD_whole (left:=left) (f:=downD m f (P.length+1)) (c:=P.length) (N:=N) (Q:=Q) (fun k s' hk a b c=>ih k s' hk a b c) hQ N 0 (splD left P.length (priceV m left) s) [] (by omega) hw (by rw[e1];unfold splD;dsimp only;omega) (by rw[e2];unfold splD;dsimp only;omega)
    generalize kidsD (downD m f (P.length+1)) left P.length N 0 (splD left P.length (priceV m left) s) []=z at *
    obtain ⟨a,b,c⟩:=hK
    rw[e1] at b
    rw[e2] at c
    unfold splD at b c
    dsimp only at b c
    exact⟨a,by show _≤z.1.room;omega,by show _≤z.1.spl;omega⟩
theorem pcP_empty (left:List (List Bool)):∀ (l:List (List Opt)) (i:Nat) (n:Int),[]∈l→pcP left i l n=none
  | [],i,n,h=>by cases h
  | c::l,i,n,h=>by
    rw[pcP]
    split
    · rfl
    · rename_i hc
      refine pcP_empty left l _ _ ((List.mem_cons.1 h).resolve_left fun e=>hc ?_)
      rw[← e];rfl
theorem price_empty (h:[]∈m.cls) (left:List (List Bool)):priceV m left=1099511627776:=by
  unfold priceV;rw[pcP_empty left _ _ _ h];rfl
theorem bestK_or {f:List Int→List Int × Int} (hf:∀ q,f q=([],1099511627776)∨(f q).2<1099511627776) (p:List Int):∀ (w k:Nat) (a:List Int × Int),(a=([],1099511627776)∨a.2<1099511627776)→(bestK f p w k a=([],1099511627776)∨(bestK f p w k a).2<1099511627776)
  | 0,k,a,h=>h
  | w+1,k,a,h=>by
    rw[bestK]
    refine bestK_or hf p w (k+1) _ ?_
    split
    · exact hf _
    · exact h
theorem bestF_or (m:Mdl):∀ (d:Nat) (p:List Int),bestF m d p=([],1099511627776)∨(bestF m d p).2<1099511627776
  | 0,p=>by
    unfold bestF
    split
    · exact .inl rfl
    · exact .inr (by dsimp only;omega)
  | d+1,p=>bestK_or (bestF_or m d) p _ _ _ (.inl rfl)
def rootD:DS:=⟨[],19999,20000,true,[],1099511627776,1099511627776⟩
def leastD (m:Mdl):DS:=downD m (m.cls.length+1) 0 (allT m) rootD
theorem least_law (hm:VM m) (h:[]∈m.cls∨capQ m m.cls.length≤8000):(leastD m).whole=true∧((leastD m).plan,(leastD m).tot)=bestF m m.cls.length []∧(leastD m).bnd=(leastD m).tot∧chkV m (leastD m).nodes=((leastD m).tot,true)∧(leastD m).nodes.length≤20000:=by
  have hr:=Dn.root hm
  have hd:=downD_ok hm (m.cls.length+1) (allT m) [] rootD (by rw[hr.fit.1];simp) hr
  have hw:(leastD m).whole=true:=by
    by_cases he:[]∈m.cls
    · unfold leastD
      rw[downD,price_empty he,if_pos (by show (1099511627776:Int)≤_;omega)];rfl
    · have hsome:∀ l∈m.cls,1≤l.length:=fun l hl=>by
        cases l with
        | nil=>exact absurd hl he
        | cons a b=>simp
      have hc:=h.resolve_left he
      refine (downD_whole hm hsome (m.cls.length+1) (allT m) [] rootD (by rw[hr.fit.1];simp) hr rfl ?_ ?_).1
      · show (2 * capQ m m.cls.length - 2:Int)≤19999;omega
      · show (capQ m m.cls.length - 1:Int)≤20000;omega
  obtain ⟨d1,d2,d3,d4,d5,d6,d7,d8,d9⟩:=hd
  change (leastD m).tot≤1099511627776 at d1
  change (leastD m).bnd≤1099511627776 at d2
  change (leastD m).tot<1099511627776→(leastD m).bnd≤(leastD m).tot at d3
  obtain ⟨_,e1,e2⟩:=d4 hw
  change ((leastD m).plan,(leastD m).tot)=foldB m m.cls.length [] ([],1099511627776) at e1
  change min 1099511627776 (leastD m).tot≤(leastD m).bnd at e2
  change ((leastD m).nodes.length:Int)+(leastD m).room=0+19999+1 at d5
  have d6:0≤(leastD m).room:=d6 (by show (0:Int)≤19999;omega)
  have hb:(leastD m).bnd=(leastD m).tot:=by omega
  obtain ⟨v,hv,hbv⟩:=d9 [] (fun x hx=>by cases hx)
  have hbv:(leastD m).bnd=minL v 1099511627776:=hbv
  have hch:=Tr.chk (P:=(leastD m).nodes) hm hv (by omega)
  refine⟨hw,?_,hb,by rw[hch,← hbv,hb],by omega⟩
  rw[e1,foldB_best _ _ _ _ (Int.le_refl _)]
  rcases bestF_or m m.cls.length [] with e | e
  · rw[e];rfl
  · rw[if_pos e]
end T
namespace T
def plansL:List (List Opt)→Int→Int
  | [],n=>n
  | c::r,n=>if c.length=0 then 0 else plansL r (min (n * c.length) 65537)
def plansV (m:Mdl):Int:=if validV m=0 then plansL m.cls 1 else 0
theorem capQ_le {m:Mdl} {w:Nat} (h:∀ l∈m.cls,l.length≤w):∀ d,d≤m.cls.length→capQ m d≤w ^ d
  | 0,_=>Nat.le_refl _
  | d+1,hd=>by
    rw[capQ,Nat.pow_succ,Nat.mul_comm]
    exact Nat.mul_le_mul (capQ_le h d (by omega)) (h _ (getD_mem (by omega)))
theorem bestF_ind {m:Mdl} (Z:List Int × Int→Prop) (h0:Z ([],1099511627776)):∀ (d:Nat) (p:List Int),BP m p→p.length+d=m.cls.length→(∀ q,Ext m p q→totP m q<1099511627776→Z (q,totP m q))→Z (bestF m d p)
  | 0,p,hp,hd,h=>by
    unfold bestF
    split
    · exact h0
    · exact h p ⟨hp.fp (by omega),[],by simp⟩ (by omega)
  | d+1,p,hp,hd,h=>by
    unfold bestF
    have key:∀ (w k:Nat) (a:List Int × Int),k+w=(m.cls.getD p.length default).length→Z a→Z (bestK (bestF m d) p w k a):=by
      intro w
      induction w with
      | zero=>intro k a _ ha;exact ha
      | succ w ih =>
        intro k a hk ha
        rw[bestK]
        refine ih (k+1) _ (by omega) ?_
        split
        · refine bestF_ind Z h0 d _ (hp.snoc (by omega) (by omega)) (by rw[List.length_append];simp;omega) fun q hq=>h q ⟨hq.1,?_⟩
          obtain ⟨r,rfl⟩:=hq.2
          exact⟨(k:Int)::r,by simp⟩
        · exact ha
    exact key _ 0 _ (by omega) h0
theorem bp_nil (m:Mdl):BP m []:=⟨Nat.zero_le _,fun j hj=>by cases hj⟩
theorem best_plan {m:Mdl} (h:(bestF m m.cls.length []).2<1099511627776):FP m (bestF m m.cls.length []).1∧totP m (bestF m m.cls.length []).1=(bestF m m.cls.length []).2 :=
  bestF_ind (fun z=>z.2<1099511627776→FP m z.1∧totP m z.1=z.2) (fun h=>absurd h (Int.lt_irrefl _)) _ [] (bp_nil m) (by simp) (fun q hq _ _=>⟨hq.1,rfl⟩) h
theorem tot_none {m:Mdl} (hm:VM m) (h:m.cls.length=0):totP m []=0:=by
  unfold totP
  have hfp:FP m []:=⟨h.symm,fun j hj=>(by cases hj)⟩
  rw[total_sum hm hfp,h]
  have h1:m.prs.length=0:=by
    cases hp:m.prs with
    | nil=>rfl
    | cons p r =>
      have:=(pairB_iff (prsL_mem hm.pr p (by rw[hp];simp))).2
      omega
  have h2:sumN (fun i=>excP [] (m.cts.getD i default)) m.cts.length=0:=by
    have:∀ n,n≤m.cts.length→sumN (fun i=>excP [] (m.cts.getD i default)) n=0:=by
      intro n
      induction n with
      | zero=>intro _;rfl
      | succ n ih =>
        intro hn
        rw[sumN,ih (by omega)]
        obtain ⟨_,q2,_,q4⟩:=ctB_iff (hm.ct _ (getD_mem (l:=m.cts) (i:=n) (d:=default) (by omega)))
        have hl:(m.cts.getD n default).loads=[]:=by
          cases hl:(m.cts.getD n default).loads with
          | nil=>rfl
          | cons x r =>
            have:=optB_iff.1 (ldL_mem q4 x (by rw[hl];simp)).1
            omega
        unfold excP excV
        rw[hl,show loadS [] ([]:List Ld) 0=0 from rfl,if_pos (by omega)];rfl
    exact this _ (Nat.le_refl _)
  rw[h1,h2];rfl
end T
namespace T
theorem indexB_ok (l:List Bool) (hl:l.length<1000000):Holds Tryz.prog 114 [.tree 1 (bools l),.lit (.bool true)] [] (.lit (.int .i64 (fstV l 0))) []:=by
  generalize hres:fstV l 0=res
  refine Holds.of_body' (fn:=Tryz.f114) 19 0 [.tmp 4] Tryz.func114 rfl rfl rfl rfl rfl (by simp) ?_
  refine Vb X0 ?_
  refine W_loopS (fun k:Nat=>(⟨slots [(0,.tree 1 (bools l)),(1,.lit (.bool true)),(7,.lit (.int .i64 l.length)),(8,.lit (.int .i64 k))],[]⟩:St)) (fun k=>k≤l.length∧fstV (l.drop k) k=res) (fun k=>l.length - k) 0 ⟨Nat.zero_le _,hres⟩ (Xv X0) ?_
  rintro k ⟨hk,hr⟩ Ql hnl hel
  by_cases hk':k<l.length
  · have hd:=getD_drop0 l k false hk'
    generalize hbb:l.getD k false=b at *
    rw[hd,fstV] at hr
    cases b
    · rw[if_neg (by simp)] at hr
      ((repeat' (first|refine Va @hbb ?_|(refine Xi ?_ ?_<;>try intro ht)|exact Xx|fail)))
      all_goals try (exfalso;simp_all;done)
      all_goals exact hnl _ (k+1) ⟨by omega,hr⟩ (by omega) (Xv X0)
    · rw[if_pos rfl] at hr
      ((repeat' (first|refine Va @hbb ?_|(refine Xi ?_ ?_<;>try intro ht)|exact Xx|fail)))
      all_goals try (exfalso;simp_all;done)
      all_goals
        repeat (refine Xu ?_)
        refine Vb X0 ?_
        exact RetOK_pure' rfl (by rw[hr])
  · ((repeat' (first|refine Va X0 ?_|(refine Xi ?_ ?_<;>try intro ht)|exact Xx|fail)))
    rw[List.drop_eq_nil_of_le (by omega),fstV] at hr
    refine hel _ _ rfl ?_;clear hnl hel Ql
    repeat (refine Xu ?_)
    refine Vb X0 ?_
    exact RetOK_pure' rfl (by rw[hr])
theorem fsts_set {left:List (List Bool)} {i:Nat} (h:i<left.length):(ints (firstsV (left.take i)++List.replicate (left.length - i) 0)).set i [.lit (.int .i64 (fstV (left.getD i default) 0))]=ints (firstsV (left.take (i+1))++List.replicate (left.length - (i+1)) 0):=by
  rw[take_snoc h,show left.length - i=(left.length - (i+1))+1 by omega,List.replicate_succ]
  unfold firstsV ints
  rw[← List.map_set]
  congr 1
  rw[List.map_append,List.set_append_right _ _ (by simp;omega)]
  simp only[List.length_map,List.length_take,Nat.min_eq_left (Nat.le_of_lt h),Nat.sub_self,List.set_cons_zero,List.map_cons,List.map_nil,List.append_assoc,List.cons_append,List.nil_append]
theorem chosen_ok (left:List (List Bool)) (hl:left.length≤24) (hw:∀ l∈left,l.length≤24):Holds Tryz.prog 74 [.tree 1 (rowsOf eBs left)] [] (.ref 0 1 0 left.length) [.arr 1 (ints (firstsV left))]:=by
  refine Holds.of_body' (fn:=Tryz.f74) 23 0 [.tmp 2] Tryz.func74 rfl rfl rfl rfl rfl (by simp) ?_
  refine Vb X0 ?_
  refine W_loopS (fun k:Nat=>(⟨slots [(3,.ref 0 1 0 left.length),(9,.tree 1 (rowsOf eBs left)),(10,.lit (.int .i64 left.length)),(11,.lit (.int .i64 k))],[.arr 1 (ints (firstsV (left.take k)++List.replicate (left.length - k) 0))]⟩:St)) (fun k=>k≤left.length) (fun k=>left.length - k) 0 (Nat.zero_le _) (by rw[List.take_zero];unfold firstsV;simp only[List.map_nil,List.nil_append,Nat.sub_zero];exact Xs false [0] @ints_rep) ?_
  rintro k hk Ql hnl hel
  by_cases hk':k<left.length
  · have hm:=hw _ (getD_mem (d:=default) hk')
    have hix:=indexB_ok (left.getD k default) (by omega)
    have hset:=fsts_set hk'
    have hlen:(ints (firstsV (left.take k)++List.replicate (left.length - k) 0)).length=left.length:=by unfold firstsV ints;simp;omega
    have hAk:(ints (firstsV (left.take k)++List.replicate (left.length - k) 0))[k]?=some [.lit (.int .i64 0)]:=by
      unfold firstsV ints
      rw[List.getElem?_map,List.getElem?_append_right (by simp;omega),List.getElem?_replicate,if_pos (by simp;omega)];rfl
    generalize hA:ints (firstsV (left.take k)++List.replicate (left.length - k) 0)=A at *
    generalize hxx:left.getD k default=row at *
    generalize fstV row 0=x at *
    ((repeat' (first|refine Vc (X4 @hxx @eBs.eq_1 @hlen @hAk) hix ?_|(refine Xi ?_ ?_<;>try intro ht)|exact Xx|fail)))
    all_goals exact hnl _ (k+1) (by omega) (by omega) (by rw[← hset];exact Xv X0)
  · ((repeat' (first|refine Va X0 ?_|(refine Xi ?_ ?_<;>try intro ht)|exact Xx|fail)))
    refine hel _ _ rfl ?_;clear hnl hel Ql
    repeat (refine Xu ?_)
    rw[List.take_of_length_le (by omega),show left.length - k=0 by omega,List.replicate_zero,List.append_nil]
    refine Vb X0 ?_
    exact Xw false [0] X0
theorem bPlans_ok (m:Mdl) (hm:MB m):Holds Tryz.prog 12 [.agg (eMdl m)] [] (.lit (.int .i64 (plansV m))) []:=by
  have h1:=valid_ok m hm
  have hm1:=hm.cls
  generalize hres:plansV m=res
  unfold plansV at hres
  refine Holds.of_body' (fn:=Tryz.f12) 26 0 [.tmp 2] Tryz.func12 rfl rfl rfl rfl rfl (by simp) ?_
  by_cases hv:validV m=0
  rotate_left
  · rw[if_neg hv] at hres
    generalize validV m=e at *
    ((repeat' (first|refine Vd X0 h1 ?_|(refine Xi ?_ ?_<;>try intro ht)|exact Xx|fail)))
    all_goals exact RetOK_pure' rfl (by rw[hres])
  rw[if_pos hv] at hres
  rw[hv] at h1
  have hvm:=valid_iff.1 hv
  ((repeat' (first|refine Vd @bne_self_eq_false.{0} h1 ?_|(refine Xi ?_ ?_<;>try intro ht)|exact Xx|fail)))
  refine W_loopS (fun z:Nat × Int=>(⟨slots [(3,.lit (.int .i64 z.2)),(10,.tree 1 (rowsOf eCls m.cls)),(11,.lit (.int .i64 m.cls.length)),(12,.lit (.int .i64 z.1))],[]⟩:St))
    (fun z=>z.1≤m.cls.length∧0≤z.2∧z.2≤65537∧plansL (m.cls.drop z.1) z.2=res) (fun z=>m.cls.length - z.1) (0,1) ⟨Nat.zero_le _,by dsimp only;omega,by dsimp only;omega,hres⟩ (Xs false [] X0) ?_
  rintro ⟨i,n⟩ ⟨hi,hn0,hn1,hr⟩ Ql hnl hel
  dsimp only at hi hn0 hn1 hr ⊢
  by_cases hi':i<m.cls.length
  · have hd:=getD_drop0 m.cls i default hi'
    have hc:=hvm.opt _ (getD_mem (d:=default) hi')
    generalize hcc:m.cls.getD i default=c at *
    rw[hd,plansL] at hr
    have hmul:0≤n * (c.length:Int)∧n * (c.length:Int)≤65537 * 24:=⟨Int.mul_nonneg hn0 (by omega),Int.mul_le_mul hn1 (by omega) (by omega) (by omega)⟩
    generalize hnc:n * (c.length:Int)=nc at *
    by_cases h0:c.length=0
    · rw[if_pos h0] at hr
      ((repeat' (first|refine Va (X3 @hcc @eCls.eq_1 @hnc) ?_|(refine Xi ?_ ?_<;>try intro ht)|exact Xx|fail)))
      all_goals
        repeat (refine Xu ?_)
        refine Vb X0 ?_
        exact RetOK_pure' rfl (by rw[hr])
    · rw[if_neg h0] at hr
      ((repeat' (first|refine Va (X3 @hcc @eCls.eq_1 @hnc) ?_|(refine Xi ?_ ?_<;>try intro ht)|exact Xx|fail)))
      all_goals exact hnl _ (i+1,min nc 65537) ⟨by dsimp only;omega,by dsimp only;omega,by dsimp only;omega,hr⟩ (by dsimp only;omega) (Xv X0)
  · rw[List.drop_eq_nil_of_le (by omega),plansL] at hr
    ((repeat' (first|refine Va X0 ?_|(refine Xi ?_ ?_<;>try intro ht)|exact Xx|fail)))
    refine hel _ _ rfl ?_;clear hnl hel Ql
    repeat (refine Xu ?_)
    refine Vb X0 ?_
    exact RetOK_pure' rfl (by rw[hr])
end T
namespace T
structure Fc (C:List (Nat × Ob)) (os:List Ob):Prop where
  at_:∀ b∈C,os[b.1]?=some b.2
  nd:(C.map (·.1)).Nodup
section
variable {C D:List (Nat × Ob)} {os:List Ob}
theorem Fc.b0 {a:Nat × Ob} (h:Fc (a::C) os):os[a.1]?=some a.2:=h.at_ a (by simp)
theorem Fc.b1 {a b:Nat × Ob} (h:Fc (a::b::C) os):os[b.1]?=some b.2:=h.at_ b (by simp)
theorem Fc.b2 {a b c:Nat × Ob} (h:Fc (a::b::c::C) os):os[c.1]?=some c.2:=h.at_ c (by simp)
theorem Fc.b3 {a b c d:Nat × Ob} (h:Fc (a::b::c::d::C) os):os[d.1]?=some d.2:=h.at_ d (by simp)
theorem Fc.app (h:Fc C os) (l:List Ob):Fc C (os++l):=⟨fun b hb=>oLo (h.at_ b hb) l,h.nd⟩
theorem Fc.perm (h:Fc C os) (hp:C.Perm D):Fc D os:=⟨fun b hb=>h.at_ b (hp.mem_iff.2 hb),((hp.map (·.1)).nodup_iff).1 h.nd⟩
theorem Fc.front {b:Nat × Ob} (A:List (Nat × Ob)) (h:Fc (A++b::C) os):Fc (b::(A++C)) os:=h.perm List.perm_middle
theorem Fc.fresh (h:Fc C os) {p:Nat} (hp:os.length≤p):p ∉ C.map (·.1):=fun hh=>by
  obtain ⟨q,hq,rfl⟩:=List.mem_map.1 hh
  have:=(List.getElem?_eq_some_iff.1 (h.at_ q hq)).1
  omega
theorem Fc.other (h:Fc C os) {i:Nat} (hi:i ∉ C.map (·.1)) (y:Ob):Fc C (os.set i y) :=
  ⟨fun b hb=>by rw[List.getElem?_set_ne (fun e=>hi (List.mem_map.2 ⟨b,hb,e.symm⟩))];exact h.at_ b hb,h.nd⟩
theorem Fc.add (h:Fc C os) {k:Nat} {x:Ob} (hk:os[k]?=some x) (hf:k ∉ C.map (·.1)):Fc ((k,x)::C) os :=
  ⟨fun b hb=>by rcases List.mem_cons.1 hb with rfl | hb;exact hk;exact h.at_ b hb,by rw[List.map_cons,List.nodup_cons];exact⟨hf,h.nd⟩⟩
theorem Fc.drop {i:Nat} {x:Ob} (h:Fc ((i,x)::C) os):Fc C os∧i ∉ C.map (·.1):=by
  have hn:=h.nd
  rw[List.map_cons,List.nodup_cons] at hn
  exact⟨⟨fun b hb=>h.at_ b (by simp[hb]),hn.2⟩,hn.1⟩
theorem Fc.put {i:Nat} {x:Ob} (h:Fc ((i,x)::C) os) (y:Ob):Fc ((i,y)::C) (os.set i y):=by
  obtain ⟨h1,h2⟩:=h.drop
  exact (h1.other h2 y).add (oSe h.b0) h2
theorem Fc.kill {i:Nat} {x:Ob} (h:Fc ((i,x)::C) os) (y:Ob):Fc C (os.set i y):=by
  obtain ⟨h1,h2⟩:=h.drop
  exact h1.other h2 y
theorem Fc.sub (h:Fc (C++D) os):Fc C os:=⟨fun b hb=>h.at_ b (List.mem_append_left _ hb),by
  have:=h.nd
  rw[List.map_append,List.nodup_append] at this
  exact this.1⟩
end
structure Rw where
  c:Int
  kid:Option (Nat × List Int)
  mv:Option (Nat × List Mv)
instance:Inhabited Rw:=⟨⟨0,none,none⟩⟩
def kE:Option (Nat × List Int)→AV
  | none=>.lit (.slice none 0 0)
  | some x=>.ref x.1 1 0 x.2.length
def mE:Option (Nat × List Mv)→AV
  | none=>.lit (.slice none 0 0)
  | some x=>.ref x.1 4 0 x.2.length
def rwR (r:Rw):List AV:=[.lit (.int .i64 r.c),kE r.kid,mE r.mv,.lit (.slice none 0 0),.lit (.slice none 0 0)]
def kO:Option (Nat × List Int)→List (Nat × Ob)
  | none=>[]
  | some x=>[(x.1,.arr 1 (ints x.2))]
def mO:Option (Nat × List Mv)→List (Nat × Ob)
  | none=>[]
  | some x=>[(x.1,.arr 4 (rowsOf eMv x.2))]
def rwO (r:Rw):List (Nat × Ob):=kO r.kid++mO r.mv
def rwB (R:List Rw):List (Nat × Ob):=R.flatMap rwO
def lfW:Rw:=⟨-1,none,none⟩
theorem rwB_app (A B:List Rw):rwB (A++B)=rwB A++rwB B:=by unfold rwB;rw[List.flatMap_append]
theorem rwB_one (r:Rw):rwB [r]=rwO r:=by simp[rwB]
theorem rw_len (R:List Rw):(rowsOf rwR R).length=R.length:=by simp[rowsOf]
theorem rw_app (R:List Rw) (r:Rw):rowsOf rwR R++[rwR r]=rowsOf rwR (R++[r]):=by simp[rowsOf]
theorem perm_sw {α:Type} (a b c:List α):(a++(b++c)).Perm (b++(a++c)):=by
  rw[← List.append_assoc,← List.append_assoc]
  exact List.Perm.append_right _ List.perm_append_comm
theorem rwB_set {R:List Rw} {j:Nat} (hj:j<R.length) (r:Rw):(rwO (R.getD j default)++rwB (R.set j r)).Perm (rwO r++rwB R):=by
  have h1:R=R.take j++R.getD j default::R.drop (j+1):=by
    rw[List.getD_eq_getElem?_getD,List.getElem?_eq_getElem hj,Option.getD_some,List.getElem_cons_drop,List.take_append_drop]
  have h2:R.set j r=R.take j++r::R.drop (j+1):=by rw[List.set_eq_take_append_cons_drop,if_pos hj]
  generalize R.getD j default=x at *
  generalize R.take j=A at *
  generalize R.drop (j+1)=B at *
  rw[h2,h1]
  have h3:∀ y,rwB (A++y::B)=rwB A++(rwO y++rwB B):=fun y=>by rw[show A++y::B=A++([y]++B) from rfl,rwB_app,rwB_app,rwB_one]
  rw[h3,h3]
  generalize rwB A=a
  generalize rwB B=b
  generalize rwO x=u
  generalize rwO r=v
  exact ((List.Perm.append_left u (perm_sw a v b)).trans ((perm_sw u v (a++b)).trans (List.Perm.append_left v (perm_sw u a b))))
def canon (F:List (Nat × Ob)) (n:Nat):List Ob:=(List.range n).map fun j=>((F.find? fun b=>b.1 == j).map (·.2)).getD .gone
structure FK (F:List (Nat × Ob)) (n:Nat):Prop where
  lt:∀ b∈F,b.1<n
  nd:(F.map (·.1)).Nodup
theorem Fc.fk {F:List (Nat × Ob)} {os:List Ob} (h:Fc F os):FK F os.length:=⟨fun b hb=>(List.getElem?_eq_some_iff.1 (h.at_ b hb)).1,h.nd⟩
theorem canon_len (F:List (Nat × Ob)) (n:Nat):(canon F n).length=n:=by simp[canon]
theorem find_key:∀ {F:List (Nat × Ob)},(F.map (·.1)).Nodup→∀ b∈F,F.find? (fun x=>x.1 == b.1)=some b
  | a::F,h,b,hb=>by
    rw[List.map_cons,List.nodup_cons] at h
    rcases List.mem_cons.1 hb with rfl | hb
    · simp
    · have:a.1≠b.1:=fun e=>h.1 (List.mem_map.2 ⟨b,hb,e.symm⟩)
      rw[List.find?_cons_of_neg (by simpa using this)]
      exact find_key h.2 b hb
theorem FK.canon {F:List (Nat × Ob)} {n:Nat} (h:FK F n):Fc F (canon F n):=⟨fun b hb=>by
  unfold T.canon
  rw[List.getElem?_map,List.getElem?_range (h.lt b hb),Option.map_some,find_key h.nd b hb];rfl,h.nd⟩
def killL:List Nat→List Ob→List Ob
  | [],os=>os
  | j::l,os=>killL l (os.set j .gone)
theorem killL_len:∀ (l:List Nat) (os:List Ob),(killL l os).length=os.length
  | [],os=>rfl
  | j::l,os=>by rw[killL,killL_len l,List.length_set]
theorem killL_get:∀ (l:List Nat) (os:List Ob) (j:Nat),j<os.length→(killL l os)[j]?=if j∈l then some .gone else os[j]?
  | [],os,j,hj=>by simp[killL]
  | i::l,os,j,hj=>by
    rw[killL,killL_get l _ j (by rw[List.length_set];exact hj)]
    by_cases h1:j∈l
    · rw[if_pos h1,if_pos (by simp[h1])]
    · rw[if_neg h1,List.getElem?_set]
      by_cases h2:i=j
      · subst h2;rw[if_pos rfl,if_pos hj,if_pos (by simp)]
      · rw[if_neg h2,if_neg (by simp only[List.mem_cons,not_or];exact⟨fun e=>h2 e.symm,h1⟩)]
theorem kill_canon {F:List (Nat × Ob)} {os:List Ob} (h:Fc F os):killL ((List.range os.length).filter fun j=>!(F.map (·.1)).contains j) os=canon F os.length:=by
  apply List.ext_getElem?
  intro j
  by_cases hj:j<os.length
  · rw[killL_get _ _ _ hj]
    by_cases hm:j∈F.map (·.1)
    · obtain ⟨b,hb,rfl⟩:=List.mem_map.1 hm
      rw[if_neg (by simp[List.mem_filter,hm]),h.fk.canon.at_ b hb,h.at_ b hb]
    · rw[if_pos (by rw[List.mem_filter];exact⟨List.mem_range.2 hj,by simp at hm ⊢;exact hm⟩)]
      unfold canon
      rw[List.getElem?_map,List.getElem?_range hj,Option.map_some]
      have:F.find? (fun b=>b.1 == j)=none:=by
        rw[List.find?_eq_none]
        intro b hb e
        exact hm (List.mem_map.2 ⟨b,hb,by simpa using e⟩)
      rw[this];rfl
  · rw[List.getElem?_eq_none (by rw[killL_len];omega),List.getElem?_eq_none (by rw[canon_len];omega)]
theorem Turns.killL {n0:Nat}:∀ (l:List Nat) (σ:St),Turns n0 σ ⟨σ.env,T.killL l σ.objs⟩
  | [],σ=>by intro os γ0 γ _ hs hf;exact⟨γ,rfl,rfl,hs,hf⟩
  | j::l,σ=>by
    refine Turns.trans (σ1:=⟨σ.env,σ.objs.set j .gone⟩) ?_ (Turns.killL l ⟨σ.env,σ.objs.set j .gone⟩)
    intro os γ0 γ _ hs hf
    exact⟨γ,rfl,rfl,hs.kill j,hf.trans (Fr.kill _ _ j)⟩
theorem Turns.canon {n0:Nat} {σ:St} {F:List (Nat × Ob)} (h:Fc F σ.objs):Turns n0 σ ⟨σ.env,T.canon F σ.objs.length⟩:=by
  rw[← kill_canon h]
  exact Turns.killL _ σ
section
variable {F G:List (Nat × Ob)} {n:Nat}
theorem FK.mono (h:FK F n) {k:Nat} (hk:n≤k):FK F k:=⟨fun b hb=>Nat.lt_of_lt_of_le (h.lt b hb) hk,h.nd⟩
theorem FK.perm (h:FK F n) (hp:F.Perm G):FK G n:=⟨fun b hb=>h.lt b (hp.mem_iff.2 hb),((hp.map (·.1)).nodup_iff).1 h.nd⟩
theorem FK.add (h:FK F n) {i:Nat} {x:Ob} (h1:n≤i) {k:Nat} (h2:i<k):FK ((i,x)::F) k:=⟨fun b hb=>by
  rcases List.mem_cons.1 hb with rfl | hb
  · exact h2
  · have:=h.lt b hb;omega,by
  rw[List.map_cons,List.nodup_cons]
  exact⟨fun hh=>by obtain ⟨b,hb,e⟩:=List.mem_map.1 hh;have:=h.lt b hb;omega,h.nd⟩⟩
theorem FK.keys (h:FK F n) (hk:G.map (·.1)=F.map (·.1)):FK G n:=⟨fun b hb=>by
  have:b.1∈F.map (·.1):=by rw[← hk];exact List.mem_map.2 ⟨b,hb,rfl⟩
  obtain ⟨c,hc,e⟩:=List.mem_map.1 this
  rw[← e];exact h.lt c hc,by rw[hk];exact h.nd⟩
theorem FK.drop {b:Nat × Ob} (h:FK (b::F) n):FK F n:=⟨fun c hc=>h.lt c (by simp[hc]),by have:=h.nd;rw[List.map_cons,List.nodup_cons] at this;exact this.2⟩
end
structure GS where
  n:Nat
  p:Nat
  R:List Rw
  k:Nat
end T
namespace T
structure QS where
  n:Nat
  p:Nat
  R:List Rw
  s:DS
def rwN (r:Rw):Nd:=⟨r.c,(r.kid.map (·.2)).getD [],(r.mv.map (·.2)).getD [],[],[]⟩
def kidsO' (f:List (List Bool)→QS→QS) (left:List (List Bool)) (c:Nat):Nat→Nat→QS→Nat→List Int→QS × Nat × List Int
  | 0,_,g,q,ks=>(g,q,ks)
  | w+1,o,g,q,ks =>
    kidsO' f left c w (o+1) ⟨(f (onlyV left c o) ⟨g.n+1,g.p,g.R,g.s⟩).n+2,(f (onlyV left c o) ⟨g.n+1,g.p,g.R,g.s⟩).p,(f (onlyV left c o) ⟨g.n+1,g.p,g.R,g.s⟩).R,(f (onlyV left c o) ⟨g.n+1,g.p,g.R,g.s⟩).s⟩ ((f (onlyV left c o) ⟨g.n+1,g.p,g.R,g.s⟩).n+1) (ks++[(g.R.length:Int)])
def finQ (c j:Nat) (r:QS × Nat × List Int):QS:=⟨r.1.n,r.1.p,r.1.R.set j ⟨(c:Int),some (r.2.1,r.2.2),none⟩,finD c j (r.1.s,r.2.2)⟩
def downO (m:Mdl):Nat→Nat→List (List Bool)→QS→QS
  | 0,_,_,g=>g
  | f+1,c,left,g =>
    if g.s.tot≤priceV m left then ⟨g.n+2,g.n+1,g.R++[lfW],{ g.s with nodes:=g.s.nodes++[leafN []],bnd:=min g.s.bnd (priceV m left) }⟩
    else if skipT left c=left.length then ⟨g.n+3,g.n+1,g.R++[lfW],{ g.s with nodes:=g.s.nodes++[leafN []],plan:=firstsV left,tot:=priceV m left,bnd:=min g.s.bnd (priceV m left) }⟩
    else if g.s.spl=0∨g.s.room<(left.getD (skipT left c) default).length then ⟨g.n+2,g.n+1,g.R++[lfW],{ g.s with nodes:=g.s.nodes++[leafN []],whole:=false,bnd:=min g.s.bnd (priceV m left) }⟩
    else finQ (skipT left c) g.R.length (kidsO' (downO m f (skipT left c+1)) left (skipT left c) (left.getD (skipT left c) default).length 0 ⟨g.n+4,g.n+1,g.R++[lfW],splD left (skipT left c) (priceV m left) g.s⟩ (g.n+3) [])
def Agr (g:QS):Prop:=g.s.nodes=g.R.map rwN
theorem Agr.len {g:QS} (h:Agr g):g.s.nodes.length=g.R.length:=by rw[h,List.length_map]
theorem Agr.lf {g:QS} (h:Agr g):g.s.nodes++[leafN []]=(g.R++[lfW]).map rwN:=by rw[h,List.map_append];rfl
theorem kidsO_sim {f:List (List Bool)→QS→QS} {f':List (List Bool)→DS→DS} (hf:∀ left g,Agr g→Agr (f left g)∧(f left g).s=f' left g.s) (left:List (List Bool)) (c:Nat):∀ (w o:Nat) (g:QS) (q:Nat) (ks:List Int),Agr g →
    Agr (kidsO' f left c w o g q ks).1∧((kidsO' f left c w o g q ks).1.s,(kidsO' f left c w o g q ks).2.2)=kidsD f' left c w o g.s ks
  | 0,o,g,q,ks,h=>⟨h,rfl⟩
  | w+1,o,g,q,ks,h=>by
    obtain ⟨a,b⟩:=hf (onlyV left c o) ⟨g.n+1,g.p,g.R,g.s⟩ h
    rw[kidsO',kidsD]
    have:=kidsO_sim hf left c w (o+1) ⟨(f (onlyV left c o) ⟨g.n+1,g.p,g.R,g.s⟩).n+2,(f (onlyV left c o) ⟨g.n+1,g.p,g.R,g.s⟩).p,(f (onlyV left c o) ⟨g.n+1,g.p,g.R,g.s⟩).R,(f (onlyV left c o) ⟨g.n+1,g.p,g.R,g.s⟩).s⟩ ((f (onlyV left c o) ⟨g.n+1,g.p,g.R,g.s⟩).n+1) (ks++[(g.R.length:Int)]) a
    refine⟨this.1,this.2.trans ?_⟩
    dsimp only
    rw[b,h.len]
theorem downO_sim (m:Mdl):∀ (f c:Nat) (left:List (List Bool)) (g:QS),Agr g→Agr (downO m f c left g)∧(downO m f c left g).s=downD m f c left g.s
  | 0,c,left,g,h=>⟨h,rfl⟩
  | f+1,c,left,g,h=>by
    rw[downO,downD]
    split
    · exact⟨h.lf,rfl⟩
    split
    · exact⟨h.lf,rfl⟩
    split
    · exact⟨h.lf,rfl⟩
    obtain ⟨a,b⟩:=kidsO_sim (fun left2 g2 h2=>downO_sim m f (skipT left c+1) left2 g2 h2) left (skipT left c) (left.getD (skipT left c) default).length 0 ⟨g.n+4,g.n+1,g.R++[lfW],splD left (skipT left c) (priceV m left) g.s⟩ (g.n+3) [] h.lf
    dsimp only at b
    rw[← b,← h.len]
    refine⟨?_,rfl⟩
    unfold Agr finQ finD at *
    dsimp only at *
    rw[a,List.map_set];rfl
end T
namespace T
theorem Fc.upd {F F':List (Nat × Ob)} {os:List Ob} (h:Fc F os) {i:Nat} {y:Ob} (hk:F'.map (·.1)=F.map (·.1)) (hy:(i,y)∈F') (hF:∀ b∈F',b.1≠i→b∈F):Fc F' (os.set i y):=by
  have hnd:(F'.map (·.1)).Nodup:=by rw[hk];exact h.nd
  refine⟨fun b hb=>?_,hnd⟩
  by_cases e:b.1=i
  · have h1:=find_key hnd b hb
    have h2:=find_key hnd _ hy
    rw[e] at h1
    have:b=(i,y):=by dsimp only at h2;rw[h1] at h2;exact Option.some.inj h2
    subst this
    have hi:i∈F.map (·.1):=by rw[← hk];exact List.mem_map.2 ⟨_,hy,rfl⟩
    obtain ⟨c,hc,e2⟩:=List.mem_map.1 hi
    have hlt:=(List.getElem?_eq_some_iff.1 (h.at_ c hc)).1
    rw[List.getElem?_set,if_pos rfl,if_pos (by rw[← e2];exact hlt)]
  · rw[List.getElem?_set_ne (Ne.symm e)]
    exact h.at_ b (hF b hb e)
def capsD:List AV:=[.ptr 8 0 0,.ptr 5 0 0,.ptr 0 0 0,.ptr 1 0 0,.ptr 2 0 0,.ptr 7 0 0,.ptr 6 0 0,.ptr 9 0 0]
def planA (pv:AV) (t0:Int) (s:DS):AV:=if s.tot<t0 then .tree 1 (ints s.plan) else pv
section
variable (dn:FuncId) (m:Mdl) (left:List (List Bool)) (pv:AV) (t0:Int)
def outO (s:DS):Ob:=.var [planA pv t0 s,.lit (.int .i64 s.tot),.lit (.int .i64 s.bnd),.lit (.slice none 0 0)]
def bB (g:QS):List (Nat × Ob):=[(0,.var (eMdl m)),(1,outO pv t0 g.s),(2,.var [.lit (.int .i64 g.s.spl)]),(4,.arr 1 (rowsOf eBs left)),(5,.var [.ref 4 1 0 left.length]),(6,.var [.lit (.bool g.s.whole)]),(7,.var [.lit (.int .i64 g.s.room)]),(9,.var [.fn dn capsD]),(8,.var [.ref g.p 5 0 g.R.length])]
def qB (g:QS) (C:List (Nat × Ob)):List (Nat × Ob):=bB dn m left pv t0 g++(g.p,.arr 5 (rowsOf rwR g.R))::(rwB g.R++C)
end
variable {dn:FuncId} {m:Mdl} {left left':List (List Bool)} {pv:AV} {t0:Int}
theorem bB_keys (g:QS):(bB dn m left pv t0 g).map (·.1)=[0,1,2,4,5,6,7,9,8]:=rfl
theorem qB_keys {g g':QS} {C C':List (Nat × Ob)} (hp:g'.p=g.p) (hR:(rwB g'.R++C').map (·.1)=(rwB g.R++C).map (·.1)):(qB dn m left' pv t0 g' C').map (·.1)=(qB dn m left pv t0 g C).map (·.1):=by
  unfold qB
  rw[List.map_append,List.map_append,bB_keys,bB_keys,List.map_cons,List.map_cons,hR]
  dsimp only
  rw[hp]
theorem qB_in {g:QS} {b:Nat × Ob} {C:List (Nat × Ob)}:(b::qB dn m left pv t0 g C).Perm (qB dn m left pv t0 g (b::C)):=by
  unfold qB
  have h:∀ (A D:List (Nat × Ob)) (x:Nat × Ob),(b::(A++x::(D++C))).Perm (A++x::(D++b::C)):=fun A D x=>by
    have:=(List.perm_middle (a:=b) (l₁:=A++x::D) (l₂:=C)).symm
    simpa [List.append_assoc] using this
  exact h _ _ _
theorem qB_new {g:QS} {C:List (Nat × Ob)} {p' k n:Nat} {s':DS} (h:FK (qB dn m left pv t0 g C) n) (h1:n≤p') (h2:p'<k):FK (qB dn m left' pv t0 ⟨k,p',g.R++[lfW],s'⟩ C) k:=by
  have h3:=((h.perm List.perm_middle).drop.add (i:=p') (x:=.arr 5 (rowsOf rwR (g.R++[lfW]))) h1 h2).perm (List.perm_middle (l₁:=bB dn m left pv t0 g)).symm
  refine h3.keys ?_
  unfold qB
  rw[List.map_append,List.map_append,bB_keys,bB_keys,List.map_cons,List.map_cons]
  dsimp only
  rw[show rwB (g.R++[lfW])=rwB g.R by rw[rwB_app,rwB_one];unfold rwO lfW kO mO;simp]
theorem qB_row {g:QS} {C:List (Nat × Ob)} {j n:Nat} {s':DS} {k:Nat} (hj:j<g.R.length) (hl:g.R.getD j default=lfW) (r:Rw) (h:FK (rwO r++qB dn m left pv t0 g C) n):FK (qB dn m left' pv t0 ⟨k,g.p,g.R.set j r,s'⟩ C) n:=by
  have hp:=rwB_set hj r
  rw[hl] at hp
  have e:rwO lfW++rwB (g.R.set j r)=rwB (g.R.set j r):=rfl
  rw[e] at hp
  have h1:(rwO r++(bB dn m left pv t0 g++(g.p,.arr 5 (rowsOf rwR g.R))::(rwB g.R++C))).Perm (bB dn m left pv t0 g++(g.p,.arr 5 (rowsOf rwR g.R))::(rwB (g.R.set j r)++C)):=by
    have a1:=perm_sw (rwO r) (bB dn m left pv t0 g++[(g.p,.arr 5 (rowsOf rwR g.R))]) (rwB g.R++C)
    simp only[List.append_assoc,List.cons_append,List.nil_append] at a1
    refine a1.trans (List.Perm.append_left _ (List.Perm.cons _ ?_))
    rw[← List.append_assoc]
    exact List.Perm.append_right C hp.symm
  refine (h.perm h1).keys ?_
  unfold qB
  rw[List.map_append,List.map_append,bB_keys,bB_keys,List.map_cons,List.map_cons]
structure DO (dn:FuncId) (m:Mdl) (left left':List (List Bool)) (pv:AV) (t0:Int) (C:List (Nat × Ob)) (g r:QS):Prop where
  lt:g.R.length<r.R.length
  pre:∀ i,i<g.R.length→r.R.getD i default=g.R.getD i default
  ol:g.n≤r.n
  fk:FK (qB dn m left' pv t0 r C) r.n
theorem FK.lf {g:QS} {C:List (Nat × Ob)} {n:Nat} {s':DS} {k:Nat} (h:FK (qB dn m left pv t0 g C) n):FK (qB dn m left' pv t0 ⟨k,g.p,g.R,s'⟩ C) n:=h.keys (qB_keys rfl rfl)
theorem getD_appR {R Z:List Rw} {i:Nat} (h:i<R.length):(R++Z).getD i default=R.getD i default:=by
  rw[List.getD_eq_getElem?_getD,List.getElem?_append_left h,List.getD_eq_getElem?_getD]
theorem getD_lfE (R:List Rw):(R++[lfW]).getD R.length default=lfW:=by rw[List.getD_eq_getElem?_getD,List.getElem?_append_right (Nat.le_refl _),Nat.sub_self];rfl
theorem getD_setR {R:List Rw} {i j:Nat} (h:i≠j) (r:Rw):(R.set j r).getD i default=R.getD i default:=by
  rw[List.getD_eq_getElem?_getD,List.getElem?_set_ne (Ne.symm h),List.getD_eq_getElem?_getD]
theorem kidsO_fk {f:List (List Bool)→QS→QS} {left0:List (List Bool)} {c:Nat} {C:List (Nat × Ob)} (x:Ob) (hf:∀ (o:Nat) (g:QS) (C':List (Nat × Ob)),FK (qB dn m left pv t0 g C') g.n→DO dn m left left pv t0 C' g (f (onlyV left0 c o) g)) :
    ∀ (w o:Nat) (g:QS) (q:Nat) (ks:List Int),FK (qB dn m left pv t0 g ((q,x)::C)) g.n →
    g.R.length≤(kidsO' f left0 c w o g q ks).1.R.length∧(∀ i,i<g.R.length→(kidsO' f left0 c w o g q ks).1.R.getD i default=g.R.getD i default)∧g.n≤(kidsO' f left0 c w o g q ks).1.n∧FK (qB dn m left pv t0 (kidsO' f left0 c w o g q ks).1 (((kidsO' f left0 c w o g q ks).2.1,x)::C)) (kidsO' f left0 c w o g q ks).1.n
  | 0,o,g,q,ks,h=>⟨Nat.le_refl _,fun _ _=>rfl,Nat.le_refl _,h⟩
  | w+1,o,g,q,ks,h=>by
    have h1:=hf o ⟨g.n+1,g.p,g.R,g.s⟩ ((q,x)::C) (h.lf.mono (Nat.le_add_right _ _))
    rw[kidsO']
    generalize f (onlyV left0 c o) ⟨g.n+1,g.p,g.R,g.s⟩=r at *
    obtain ⟨b1,b2,b3,b4⟩:=h1
    dsimp only at b1 b2 b3
    have h2:FK (qB dn m left pv t0 ⟨r.n+2,r.p,r.R,r.s⟩ ((r.n+1,x)::C)) (r.n+2) :=
      (((b4.perm qB_in.symm).drop.add (i:=r.n+1) (x:=x) (by omega) (k:=r.n+2) (by omega)).perm qB_in).lf
    obtain ⟨i1,i2,i3,i4⟩:=kidsO_fk x hf w (o+1) ⟨r.n+2,r.p,r.R,r.s⟩ (r.n+1) (ks++[(g.R.length:Int)]) h2
    dsimp only at i1 i2 i3
    exact⟨by omega,fun i hi=>(i2 i (by omega)).trans (b2 i hi),by omega,i4⟩
theorem downO_fk {N:Nat}:∀ (f c:Nat) (left0:List (List Bool)) (g:QS) (C:List (Nat × Ob)),left0.length=N→N+1≤f+c→c≤N→FK (qB dn m left pv t0 g C) g.n→DO dn m left left pv t0 C g (downO m f c left0 g)
  | 0,c,left0,g,C,hl,hfc,hcl,h=>by omega
  | f+1,c,left0,g,C,hl,hfc,hcl,h=>by
    have base:∀ (k:Nat) (s':DS),g.n+2≤k→DO dn m left left pv t0 C g ⟨k,g.n+1,g.R++[lfW],s'⟩:=fun k s' hk=>⟨by simp,fun i hi=>getD_appR hi,by show g.n≤k;omega,qB_new h (by omega) (by omega)⟩
    rw[downO]
    split
    · exact base _ _ (Nat.le_refl _)
    split
    · exact base _ _ (by omega)
    split
    · exact base _ _ (Nat.le_refl _)
    rename_i he _
    obtain ⟨g1,g2,g3,g4⟩:=skipT_ge (left:=left0) _ c rfl
    have hsk:skipT left0 c<N:=by have:=g2 (by omega);omega
    have hq:FK (qB dn m left pv t0 ⟨g.n+4,g.n+1,g.R++[lfW],splD left0 (skipT left0 c) (priceV m left0) g.s⟩ ((g.n+3,.gone)::C)) (g.n+4):=by
      have:=qB_new (left':=left) (s':=splD left0 (skipT left0 c) (priceV m left0) g.s) (p':=g.n+1) (k:=g.n+3) h (by omega) (by omega)
      exact ((this.add (i:=g.n+3) (x:=.gone) (Nat.le_refl _) (k:=g.n+4) (by omega)).perm qB_in).lf
    obtain ⟨i1,i2,i3,i4⟩:=kidsO_fk (dn:=dn) (m:=m) (left:=left) (pv:=pv) (t0:=t0) (left0:=left0) (c:=skipT left0 c) (C:=C) (f:=downO m f (skipT left0 c+1)) .gone (fun o g' C' hh=>downO_fk f (skipT left0 c+1) (onlyV left0 (skipT left0 c) o) g' C' (by unfold onlyV;simpa using hl) (by omega) (by omega) hh) (left0.getD (skipT left0 c) default).length 0 _ (g.n+3) [] hq
    generalize kidsO' (downO m f (skipT left0 c+1)) left0 (skipT left0 c) (left0.getD (skipT left0 c) default).length 0 ⟨g.n+4,g.n+1,g.R++[lfW],splD left0 (skipT left0 c) (priceV m left0) g.s⟩ (g.n+3) []=r at *
    dsimp only at i1 i2 i3
    have hRl:(g.R++[lfW]).length=g.R.length+1:=by simp
    unfold finQ
    refine⟨by dsimp only;rw[List.length_set];omega,fun i hi=>?_,by dsimp only;omega,?_⟩
    · dsimp only
      rw[getD_setR (by omega),i2 i (by omega)];exact getD_appR hi
    · have hlr:r.1.R.getD g.R.length default=lfW:=by rw[i2 _ (by omega)];exact getD_lfE _
      refine qB_row (left:=left) (g:=r.1) (C:=C) (by omega) hlr _ ?_
      exact (i4.perm qB_in.symm).keys rfl
end T
namespace T
variable {dn:FuncId} {m:Mdl} {left left':List (List Bool)} {pv:AV} {t0:Int} {os:List Ob} {g g':QS} {C:List (Nat × Ob)}
theorem qB_upd (h:Fc (qB dn m left pv t0 g C) os) {i:Nat} {y:Ob} (hp:g'.p=g.p:=by rfl) (hR:g'.R=g.R:=by rfl) (hy:(i,y)∈bB dn m left' pv t0 g':=by simp[bB,outO,planA]) (hb:∀ b∈bB dn m left' pv t0 g',b.1≠i→b∈bB dn m left pv t0 g:=by (intro b hb hne;simp only[bB,List.mem_cons,List.not_mem_nil,or_false] at hb ⊢;rcases hb with rfl|rfl|rfl|rfl|rfl|rfl|rfl|rfl|rfl<;>first|exact absurd rfl hne|simp[outO,planA])):Fc (qB dn m left' pv t0 g' C) (os.set i y):=by
  refine h.upd (qB_keys hp (by rw[hR])) (List.mem_append_left _ hy) fun b hb2 hne=>?_
  unfold qB at hb2 ⊢
  rcases List.mem_append.1 hb2 with h1 | h1
  · exact List.mem_append_left _ (hb b h1 hne)
  · rw[hp,hR] at h1
    exact List.mem_append_right _ h1
theorem qB_at (h:Fc (qB dn m left pv t0 g C) os) {b:Nat × Ob} (hb:b∈bB dn m left pv t0 g):os[b.1]?=some b.2:=h.at_ b (List.mem_append_left _ hb)
theorem qB_p (h:Fc (qB dn m left pv t0 g C) os):os[g.p]?=some (.arr 5 (rowsOf rwR g.R)):=h.at_ (g.p,_) (by unfold qB;simp)
theorem qB_C (h:Fc (qB dn m left pv t0 g C) os) {b:Nat × Ob} (hb:b∈C):os[b.1]?=some b.2:=h.at_ b (by unfold qB;simp[hb])
theorem qB_ne (h:Fc (qB dn m left pv t0 g C) os) {b:Nat × Ob} (hb:b∈bB dn m left pv t0 g):g.p≠b.1:=fun e=>by
  have h1:=qB_p h
  rw[e,qB_at h hb] at h1
  simp only[bB,List.mem_cons,List.not_mem_nil,or_false] at hb
  rcases hb with rfl | rfl | rfl | rfl | rfl | rfl | rfl | rfl | rfl<;>simp[outO] at h1
theorem newQ_fc (h:Fc (qB dn m left pv t0 g C) os) (k:Nat) (X:List Nd):Fc (qB dn m left pv t0 ⟨k,os.length+1,g.R++[lfW],{ g.s with nodes:=X }⟩ C) ((os.set g.p .gone).set 8 (.var [.ref (os.length+1) 5 0 (g.R.length+1)])++[.arr 5 [rwR lfW],.arr 5 (rowsOf rwR (g.R++[lfW]))]):=by
  have h1:=(h.front (bB dn m left pv t0 g)).kill .gone
  have hl:(os.set g.p Ob.gone).length=os.length:=List.length_set
  have h8:8<(os.set g.p Ob.gone).length:=by
    rw[hl];exact (List.getElem?_eq_some_iff.1 (qB_at h (b:=(8,.var [.ref g.p 5 0 g.R.length])) (by simp[bB]))).1
  have e:(os.set g.p .gone).set 8 (.var [.ref (os.length+1) 5 0 (g.R.length+1)])++[.arr 5 [rwR lfW],.arr 5 (rowsOf rwR (g.R++[lfW]))]=(os.set g.p .gone++[Ob.arr 5 [rwR lfW],Ob.arr 5 (rowsOf rwR (g.R++[lfW]))]).set 8 (.var [.ref (os.length+1) 5 0 (g.R.length+1)]):=by
    rw[List.set_append_left _ _ h8]
  rw[e]
  have h3:=(h1.app [.arr 5 [rwR lfW],.arr 5 (rowsOf rwR (g.R++[lfW]))]).add (k:=os.length+1) (x:=.arr 5 (rowsOf rwR (g.R++[lfW]))) (by rw[← hl,oLk];rfl) (h1.fresh (by rw[hl];omega))
  have h4:=h3.perm (List.perm_middle (l₁:=bB dn m left pv t0 g)).symm
  refine h4.upd ?_ ?_ fun b hb hne=>?_
  · unfold qB
    rw[List.map_append,List.map_append,bB_keys,bB_keys,List.map_cons,List.map_cons]
    dsimp only
    rw[show rwB (g.R++[lfW])=rwB g.R by rw[rwB_app,rwB_one];unfold rwO lfW kO mO;simp]
  · unfold qB bB
    simp
  · unfold qB at hb
    rw[show rwB (g.R++[lfW])=rwB g.R by rw[rwB_app,rwB_one];unfold rwO lfW kO mO;simp] at hb
    rcases List.mem_append.1 hb with h5 | h5
    · refine List.mem_append_left _ ?_
      simp only[bB,List.mem_cons,List.not_mem_nil,or_false] at h5 ⊢
      rcases h5 with rfl|rfl|rfl|rfl|rfl|rfl|rfl|rfl|rfl<;>first|exact absurd rfl hne|simp[outO,planA]
    · exact List.mem_append_right _ h5
theorem rowQ_fc {c:Int} {q j:Nat} {ks:List Int} (hj:j<g.R.length) (hl:g.R.getD j default=lfW) (h:Fc (qB dn m left pv t0 g ((q,.arr 1 (ints ks))::C)) os) (k:Nat) (X:List Nd) :
    Fc (qB dn m left pv t0 ⟨k,g.p,g.R.set j ⟨c,some (q,ks),none⟩,{ g.s with nodes:=X }⟩ C) (os.set g.p (.arr 5 (rowsOf rwR (g.R.set j ⟨c,some (q,ks),none⟩)))):=by
  have hp:=rwB_set hj (⟨c,some (q,ks),none⟩:Rw)
  rw[hl] at hp
  have e:rwO lfW++rwB (g.R.set j ⟨c,some (q,ks),none⟩)=rwB (g.R.set j ⟨c,some (q,ks),none⟩):=rfl
  rw[e] at hp
  have e2:rwO (⟨c,some (q,ks),none⟩:Rw)=[(q,.arr 1 (ints ks))]:=rfl
  rw[e2] at hp
  have h1:=((h.front (bB dn m left pv t0 g)).put (.arr 5 (rowsOf rwR (g.R.set j ⟨c,some (q,ks),none⟩)))).perm (List.perm_middle (l₁:=bB dn m left pv t0 g)).symm
  refine h1.perm ?_
  unfold qB
  have h2:bB dn m left pv t0 ⟨k,g.p,g.R.set j ⟨c,some (q,ks),none⟩,{ g.s with nodes:=X }⟩=bB dn m left pv t0 g:=by
    unfold bB outO planA
    dsimp only
    rw[List.length_set]
  rw[h2]
  refine List.Perm.append_left _ (List.Perm.cons _ ?_)
  have h3:(rwB g.R++(q,Ob.arr 1 (ints ks))::C).Perm ([(q,Ob.arr 1 (ints ks))]++(rwB g.R++C)):=List.perm_middle
  refine h3.trans ?_
  rw[← List.append_assoc]
  exact List.Perm.append_right C hp.symm
structure Cn (s r:DS):Prop where
  a:0≤s.spl→0≤r.spl
  b:r.spl≤s.spl
  c:0≤s.room→0≤r.room
  d:r.room≤s.room
  e:r.tot≤s.tot
theorem Cn.refl (s:DS):Cn s s:=⟨fun h=>h,Int.le_refl _,fun h=>h,Int.le_refl _,Int.le_refl _⟩
theorem Cn.trans {s r t:DS} (h:Cn s r) (k:Cn r t):Cn s t:=⟨fun x=>k.a (h.a x),Int.le_trans k.b h.b,fun x=>k.c (h.c x),Int.le_trans k.d h.d,Int.le_trans k.e h.e⟩
theorem kidsO_room {f:List (List Bool)→QS→QS} {left0:List (List Bool)} {c:Nat} (hf:∀ (o:Nat) (g:QS),((f (onlyV left0 c o) g).R.length:Int)+(f (onlyV left0 c o) g).s.room=g.R.length+g.s.room+1) :
    ∀ (w o:Nat) (g:QS) (q:Nat) (ks:List Int),((kidsO' f left0 c w o g q ks).1.R.length:Int)+(kidsO' f left0 c w o g q ks).1.s.room=g.R.length+g.s.room+w
  | 0,o,g,q,ks=>by show (g.R.length:Int)+g.s.room=_;simp
  | w+1,o,g,q,ks=>by
    have h1:=hf o ⟨g.n+1,g.p,g.R,g.s⟩
    rw[kidsO']
    generalize f (onlyV left0 c o) ⟨g.n+1,g.p,g.R,g.s⟩=r at *
    have:=kidsO_room hf w (o+1) ⟨r.n+2,r.p,r.R,r.s⟩ (r.n+1) (ks++[(g.R.length:Int)])
    dsimp only at h1 this ⊢
    rw[this];omega
theorem downO_room (m:Mdl) {N:Nat}:∀ (f c:Nat) (left0:List (List Bool)) (g:QS),left0.length=N→N+1≤f+c→c≤N→((downO m f c left0 g).R.length:Int)+(downO m f c left0 g).s.room=g.R.length+g.s.room+1
  | 0,c,left0,g,hl,hfc,hcl=>by omega
  | f+1,c,left0,g,hl,hfc,hcl=>by
    have hRl:(g.R++[lfW]).length=g.R.length+1:=by simp
    rw[downO]
    split
    · show ((g.R++[lfW]).length:Int)+g.s.room=_;omega
    split
    · show ((g.R++[lfW]).length:Int)+g.s.room=_;omega
    split
    · show ((g.R++[lfW]).length:Int)+g.s.room=_;omega
    rename_i he _
    obtain ⟨g1,g2,g3,g4⟩:=skipT_ge (left:=left0) _ c rfl
    have hsk:skipT left0 c<N:=by have:=g2 (by omega);omega
    have hK:=kidsO_room (left0:=left0) (c:=skipT left0 c) (f:=downO m f (skipT left0 c+1)) (fun o g'=>downO_room m f (skipT left0 c+1) (onlyV left0 (skipT left0 c) o) g' (by unfold onlyV;simpa using hl) (by omega) (by omega)) (left0.getD (skipT left0 c) default).length 0 ⟨g.n+4,g.n+1,g.R++[lfW],splD left0 (skipT left0 c) (priceV m left0) g.s⟩ (g.n+3) []
    generalize kidsO' (downO m f (skipT left0 c+1)) left0 (skipT left0 c) (left0.getD (skipT left0 c) default).length 0 ⟨g.n+4,g.n+1,g.R++[lfW],splD left0 (skipT left0 c) (priceV m left0) g.s⟩ (g.n+3) []=r at *
    unfold splD at hK
    dsimp only at hK
    show ((r.1.R.set g.R.length _).length:Int)+r.1.s.room=_
    rw[List.length_set];omega
theorem kidsO_cn {f:List (List Bool)→QS→QS} (hf:∀ l g,Cn g.s (f l g).s) (left:List (List Bool)) (c:Nat):∀ (w o:Nat) (g:QS) (q:Nat) (ks:List Int),Cn g.s (kidsO' f left c w o g q ks).1.s
  | 0,o,g,q,ks=>Cn.refl g.s
  | w+1,o,g,q,ks=>by
    have h1:=hf (onlyV left c o) ⟨g.n+1,g.p,g.R,g.s⟩
    rw[kidsO']
    generalize f (onlyV left c o) ⟨g.n+1,g.p,g.R,g.s⟩=r at *
    exact h1.trans (kidsO_cn hf left c w (o+1) ⟨r.n+2,r.p,r.R,r.s⟩ (r.n+1) _)
theorem downO_cn (m:Mdl):∀ (f c:Nat) (left:List (List Bool)) (g:QS),Cn g.s (downO m f c left g).s
  | 0,c,left,g=>Cn.refl g.s
  | f+1,c,left,g=>by
    rw[downO]
    split
    · exact⟨fun h=>h,Int.le_refl _,fun h=>h,Int.le_refl _,Int.le_refl _⟩
    split
    · exact⟨fun h=>h,Int.le_refl _,fun h=>h,Int.le_refl _,by dsimp only;omega⟩
    split
    · exact⟨fun h=>h,Int.le_refl _,fun h=>h,Int.le_refl _,Int.le_refl _⟩
    rename_i hb
    rw[not_or] at hb
    refine Cn.trans (r:=splD left (skipT left c) (priceV m left) g.s) ?_ ?_
    · unfold splD
      exact⟨fun h=>by dsimp only;omega,by dsimp only;omega,fun h=>by dsimp only;omega,by dsimp only;omega,Int.le_refl _⟩
    · have:=kidsO_cn (fun l g=>downO_cn m f (skipT left c+1) l g) left (skipT left c) (left.getD (skipT left c) default).length 0 ⟨g.n+4,g.n+1,g.R++[lfW],splD left (skipT left c) (priceV m left) g.s⟩ (g.n+3) []
      exact⟨this.a,this.b,this.c,this.d,this.e⟩
end T
namespace T
variable {dn:FuncId} {m:Mdl} {left left':List (List Bool)} {pv:AV} {t0:Int} {os:List Ob} {g g':QS} {C:List (Nat × Ob)}
theorem qB_out {b:Nat × Ob}:(qB dn m left pv t0 g (b::C)).Perm (b::qB dn m left pv t0 g C):=qB_in.symm
theorem kidQ_fc {q nv:Nat} {x y X':Ob} (a:Ob) (h:Fc (qB dn m left pv t0 g ((q,x)::(nv,y)::C)) os) (k:Nat) (b:Ob):Fc (qB dn m left pv t0 ⟨k,g.p,g.R,g.s⟩ ((os.length+1,b)::(nv,X')::C)) ((os.set q .gone).set nv X'++[a,b]):=by
  have h1:=((h.perm qB_out).kill .gone).perm qB_out
  have h2:=((h1.put X').app [a,b]).add (k:=os.length+1) (x:=b) (by
    have:((os.set q Ob.gone).set nv X').length=os.length:=by simp
    rw[← this,oLk];rfl) ((h1.put X').fresh (by simp))
  have h3:((os.length+1,b)::(nv,X')::qB dn m left pv t0 g C).Perm (qB dn m left pv t0 ⟨k,g.p,g.R,g.s⟩ ((os.length+1,b)::(nv,X')::C)):=(List.Perm.cons _ qB_in).trans qB_in
  exact h2.perm h3
theorem eBs_set {c:Nat} (x y:List Bool):(rowsOf eBs (left.set c x)).set c [.tree 1 (bools y)]=rowsOf eBs (left.set c y):=by
  unfold rowsOf
  rw[List.map_set,List.map_set,List.set_set];rfl
theorem setRow_self {c:Nat} (hc:c<left.length):left.set c (left.getD c default)=left:=by
  rw[List.getD_eq_getElem?_getD,List.getElem?_eq_getElem hc]
  exact List.set_getElem_self hc
theorem rw_get {R:List Rw} {j:Nat} {r:Rw} (hj:j<R.length) (h:R.getD j default=r):(rowsOf rwR R)[j]?=some (rwR r):=by
  unfold rowsOf
  rw[List.getElem?_map,List.getElem?_eq_getElem hj,Option.map_some]
  rw[List.getD_eq_getElem?_getD,List.getElem?_eq_getElem hj,Option.getD_some] at h
  rw[h]
theorem rw_set (R:List Rw) (j:Nat) (r:Rw):(rowsOf rwR R).set j (rwR r)=rowsOf rwR (R.set j r):=by unfold rowsOf;rw[List.map_set]
end T
namespace T
variable {σ:St} {kp:Nat→Prop}
theorem frzI {id n:Nat} {xs:List Int} (ho:σ.objs[id]?=some (.arr 1 (ints xs))) (hn:n=xs.length) (hk:¬ kp id):Frz σ kp (.tree 1 (ints xs)) (.ref id 1 0 n) :=
  Frz.mk ho (by rw[hn];simp[ints]) hk (ints_wid _) (RowsR.of_get (f:=fun _=>[]) (g:=fun _=>[]) rfl fun j c d hc hd=>by rw[hc] at hd;cases hd;exact frz_row (fun v hv=>ints_frz _ _ (List.mem_of_getElem? hc) v hv) rfl)
theorem frzE {α:Type} {enc:α→List AV} {w:Nat} [Row enc w] {id n:Nat} {xs:List α} (ho:σ.objs[id]?=some (.arr w (rowsOf enc xs))) (hn:n=xs.length) (hk:¬ kp id):Frz σ kp (.tree w (rowsOf enc xs)) (.ref id w 0 n) :=
  Frz.mk ho (by rw[hn,rows_length]) hk (rows_wid _) (RowsR.of_get (f:=fun _=>[]) (g:=fun _=>[]) rfl fun j c d hc hd=>by rw[hc] at hd;cases hd;exact frz_row (fun v hv=>rows_frz _ _ (List.mem_of_getElem? hc) v hv) rfl)
theorem frzK (x:Option (Nat × List Int)) (h:∀ b∈kO x,σ.objs[b.1]?=some b.2) (hk:∀ i,¬ kp i):Frz σ kp (.tree 1 (ints ((x.map (·.2)).getD []))) (kE x):=by
  cases x with
  | none=>exact .nil 1
  | some y=>exact frzI (h (y.1,.arr 1 (ints y.2)) (by simp[kO])) rfl (hk _)
theorem frzM (x:Option (Nat × List Mv)) (h:∀ b∈mO x,σ.objs[b.1]?=some b.2) (hk:∀ i,¬ kp i):Frz σ kp (.tree 4 (rowsOf eMv ((x.map (·.2)).getD []))) (mE x):=by
  cases x with
  | none=>exact .nil 4
  | some y=>exact frzE (h (y.1,.arr 4 (rowsOf eMv y.2)) (by simp[mO])) rfl (hk _)
theorem frzN (r:Rw) (h:∀ b∈rwO r,σ.objs[b.1]?=some b.2) (hk:∀ i,¬ kp i):ArgsR (Frz σ kp) (eNd (rwN r)) (rwR r) :=
  ⟨.lit _,frzK r.kid (fun b hb=>h b (by unfold rwO;simp[hb])) hk,frzM r.mv (fun b hb=>h b (by unfold rwO;simp[hb])) hk,.nil 1,.nil 1,trivial⟩
theorem frzNs (hk:∀ i,¬ kp i):∀ (R:List Rw),(∀ b∈rwB R,σ.objs[b.1]?=some b.2)→RowsR (Frz σ kp) (rowsOf eNd (R.map rwN)) (rowsOf rwR R)
  | [],_=>trivial
  | r::R,h=>⟨frzN r (fun b hb=>h b (by unfold rwB;simp[hb])) hk,frzNs hk R (fun b hb=>h b (by unfold rwB at hb ⊢;rw[List.flatMap_cons,List.mem_append];exact .inr hb))⟩
theorem frzP {p:Nat} {R:List Rw} (hp:σ.objs[p]?=some (.arr 5 (rowsOf rwR R))) (h:∀ b∈rwB R,σ.objs[b.1]?=some b.2) (hk:∀ i,¬ kp i):Frz σ kp (.tree 5 (rowsOf eNd (R.map rwN))) (.ref p 5 0 R.length) :=
  Frz.mk hp (by rw[rw_len]) (hk _) (rows_wid _) (frzNs hk R h)
end T
namespace T
theorem least_pb {m:Mdl} (hm:VM m):PB (leastD m).nodes∧(leastD m).nodes.length≤20000:=by
  have hr:=Dn.root hm
  have hd:=downD_ok hm (m.cls.length+1) (allT m) [] rootD (by rw[hr.fit.1];simp) hr
  obtain ⟨d1,d2,d3,d4,d5,d6,d7,d8,d9⟩:=hd
  change ((leastD m).nodes.length:Int)+(leastD m).room=0+19999+1 at d5
  have d6:0≤(leastD m).room:=d6 (by show (0:Int)≤19999;omega)
  obtain ⟨v,hv,_⟩:=d9 [] (fun x hx=>by cases hx)
  have hv:Tr m (leastD m).nodes 0 (leastD m).nodes.length (allT m) [] v:=hv
  have hn:=hv.seg.node_ok
  have hf:=hv.seg.flat
  have hget:∀ x∈(leastD m).nodes,∃ i,i<(leastD m).nodes.length∧nd (leastD m).nodes i=x:=fun x hx=>by
    obtain ⟨i,hi,rfl⟩:=List.getElem_of_mem hx
    exact⟨i,hi,by unfold nd;rw[List.getD_eq_getElem?_getD,List.getElem?_eq_getElem hi];rfl⟩
  refine⟨⟨by omega,fun x hx=>?_,fun x hx=>?_,fun x hx=>?_,fun x hx=>?_,fun x hx l hl=>?_⟩,by omega⟩
  all_goals
    obtain ⟨i,hi,rfl⟩:=hget x hx
    obtain ⟨f1,f2,f3⟩:=hf i (Nat.zero_le _) hi
    obtain ⟨n1,_⟩:=hn i (Nat.zero_le _) hi
  · have:=ndB_kids hm n1;omega
  · omega
  · rw[f2];decide
  · rw[f3];decide
  · rw[f3] at hl;cases hl
end T

