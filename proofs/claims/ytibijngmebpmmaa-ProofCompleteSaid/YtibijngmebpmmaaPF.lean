import Derived.Test.YtibijngmebpmmaaPR
set_option linter.unusedVariables false
set_option linter.unusedSimpArgs false
set_option linter.unnecessarySimpa false
open Go Go.Am
namespace T
def upto (n:Nat):List Int:=(List.range n).map fun (j:Nat)=>(j:Int)
theorem upto_succ (n:Nat):upto (n+1)=upto n++[(n:Int)]:=by unfold upto;rw[List.range_succ,List.map_append];rfl
theorem upto_mem {n:Nat} {x:Int}:x∈upto n↔0≤x∧x<n:=by
  unfold upto
  rw[List.mem_map]
  constructor
  · rintro ⟨j,hj,rfl⟩;have:=List.mem_range.1 hj;omega
  · intro h;exact⟨x.toNat,List.mem_range.2 (by omega),by omega⟩
def fullL (g:List Nd→List Nd):Nat→List Nd→List Int→List Nd × List Int
  | 0,nodes,ks=>(nodes,ks)
  | w+1,nodes,ks=>fullL g w (g nodes) (ks++[(nodes.length:Int)])
def fullF (m:Mdl):Nat→List Nd→List Nd
  | 0,nodes=>nodes++[leafN []]
  | d+1,nodes=>(fullL (fullF m d) (m.cls.getD (m.cls.length - (d+1)) default).length (nodes++[leafN []]) []).1.set nodes.length ⟨((m.cls.length - (d+1):Nat):Int),(fullL (fullF m d) (m.cls.getD (m.cls.length - (d+1)) default).length (nodes++[leafN []]) []).2,[],[],[]⟩
structure FullOK (m:Mdl) (w d:Nat) (nodes r:List Nd):Prop where
  lt:nodes.length<r.length
  le:r.length≤nodes.length+szB w d
  pre:∀ i,i<nodes.length→nd r i=nd nodes i
  seg:Seg m r (fun ab=>ab=upto m.cls.length) nodes.length r.length (upto (m.cls.length - d))
theorem fullL_ok {m:Mdl} {w d:Nat} (g:List Nd→List Nd) (hg:∀ n,FullOK m w d n (g n)):∀ (c:Nat) (nodes:List Nd) (ks:List Int) (lo:Nat),lo≤nodes.length→Segs m nodes (fun ab=>ab=upto m.cls.length) lo nodes.length (upto (m.cls.length - d)) ks →
    nodes.length≤(fullL g c nodes ks).1.length∧(fullL g c nodes ks).1.length≤nodes.length+c * szB w d∧(∀ i,i<nodes.length→nd (fullL g c nodes ks).1 i=nd nodes i)∧Segs m (fullL g c nodes ks).1 (fun ab=>ab=upto m.cls.length) lo (fullL g c nodes ks).1.length (upto (m.cls.length - d)) (fullL g c nodes ks).2∧(fullL g c nodes ks).2.length=ks.length+c
  | 0,nodes,ks,lo,hlo,hs=>⟨Nat.le_refl _,Nat.le_add_right _ _,fun _ _=>rfl,hs,rfl⟩
  | c+1,nodes,ks,lo,hlo,hs=>by
    rw[fullL]
    have h:=hg nodes
    have h1:=h.lt
    have h2:=h.le
    obtain ⟨i2,i3,i4,i5,i6⟩:=fullL_ok g hg c (g nodes) (ks++[(nodes.length:Int)]) lo (by omega) (Segs.snoc h.seg (hs.frame fun i _ h2=>h.pre i h2))
    refine⟨by omega,?_,fun i hi=>(i4 i (by omega)).trans (h.pre i hi),i5,by rw[i6];simp;omega⟩
    have:(c+1) * szB w d=c * szB w d+szB w d:=by rw[Nat.add_mul,Nat.one_mul]
    omega
theorem fullF_ok {m:Mdl} {w:Nat} (hsome:∀ l∈m.cls,1≤l.length∧l.length≤w):∀ (d:Nat),d≤m.cls.length→∀ nodes:List Nd,FullOK m w d nodes (fullF m d nodes)
  | 0,_,nodes=>by
    refine⟨by simp[fullF],by simp[fullF,szB],fun i hi=>nd_app hi,?_⟩
    unfold fullF
    rw[List.length_append,List.length_singleton,Nat.sub_zero]
    exact .leaf _ _ [] nd_last (by simp) (by simp) (by rw[upto_mem];omega) rfl
  | d+1,hd,nodes=>by
    rw[fullF]
    have hc:m.cls.length - (d+1)<m.cls.length:=by omega
    have hw:=hsome _ (getD_mem (l:=m.cls) (i:=m.cls.length - (d+1)) (d:=default) hc)
    have hcd:m.cls.length - d=m.cls.length - (d+1)+1:=by omega
    obtain ⟨i2,i3,i4,i5,i6⟩:=fullL_ok (m:=m) (w:=w) (d:=d) (fullF m d) (fun n=>fullF_ok hsome d (by omega) n) (m.cls.getD (m.cls.length - (d+1)) default).length (nodes++[leafN []]) [] (nodes.length+1) (by simp) (by rw[List.length_append,List.length_singleton];exact .nil _ _)
    rw[hcd] at i5
    generalize hcc:m.cls.length - (d+1)=c at *
    generalize fullL (fullF m d) (m.cls.getD c default).length (nodes++[leafN []]) []=r at *
    obtain ⟨nodes',ks⟩:=r
    dsimp only at *
    rw[List.length_append,List.length_singleton] at i2 i3 i4
    have hset:=fun i=>nd_set (P:=nodes') (x:=⟨(c:Int),ks,[],[],[]⟩) (i:=i) (j:=nodes.length) (by omega)
    refine⟨by rw[List.length_set];omega,?_,fun i hi=>?_,?_⟩
    · rw[List.length_set,szB]
      have:(m.cls.getD c default).length * szB w d≤w * szB w d:=Nat.mul_le_mul_right _ hw.2
      omega
    · rw[hset,if_neg (by omega),i4 i (by omega),nd_app hi]
    · rw[List.length_set,hcc]
      refine .node _ _ _ c ks (by rw[hset,if_pos rfl]) hc (by rw[upto_mem];omega) (by simpa using i6) ?_
      rw[upto_succ] at i5
      exact i5.frame fun i h1 h2=>by rw[hset,if_neg (by omega)]
def AbP (m:Mdl) (s:St3):Prop:=FitsP m s.2.1∧∀ c∈s.2.2,0≤c∧c<m.cls.length∧∃ o,o<(m.cls.getD c.toNat default).length∧s.2.1.getD c.toNat default=onlyR (m.cls.getD c.toNat default).length o
theorem vs_abp {m:Mdl} {P:List Nd} (hs:shapedB m P=true):∀ (f:Nat) (s:St3),s.1<P.length→P.length - s.1≤f→AbP m s→∀ t∈vs P s,AbP m t:=by
  have hd:=shaped_down hs
  intro f
  induction f with
  | zero=>intro s h1 h2;omega
  | succ f ih =>
    intro s h1 h2 hA t ht
    rw[vs_step hd h1,List.mem_cons] at ht
    rcases ht with rfl | ht
    · exact hA
    obtain ⟨u,hu,ht⟩:=List.mem_flatMap.1 ht
    obtain ⟨o,ho,rfl⟩:=kid_mem (List.mem_reverse.1 hu)
    have hk:=kid_in hd h1 ho
    refine ih _ hk.2.1 (by omega) ?_ t ht
    have hn:=shaped_node hs h1
    unfold nodeB ndB at hn
    rw[Bool.and_eq_true] at hn
    have hn1:=hn.1
    split at hn1
    · rw[decide_eq_true_eq] at hn1;omega
    rw[decide_eq_true_eq] at hn1
    obtain ⟨c1,c2,c3,_⟩:=hn1
    have hfl:=hA.1.1
    have hrow:=hA.1.2 (nd P s.1).cls.toNat (by omega)
    refine⟨fits_map hA.1 (onlyV_len _ _ _),fun c hc=>?_⟩
    have hset:(kidS P s o).2.1=s.2.1.set (nd P s.1).cls.toNat (onlyR (m.cls.getD (nd P s.1).cls.toNat default).length o):=by
      show onlyV _ _ _=_
      unfold onlyV
      rw[hrow]
    have hab:(kidS P s o).2.2=s.2.2++[(nd P s.1).cls]:=rfl
    rw[hab,List.mem_append,List.mem_singleton] at hc
    rw[hset]
    by_cases e:c=(nd P s.1).cls
    · subst e
      exact⟨c1,c2,o,by omega,by rw[getD_set _ _ _ (by omega)]⟩
    · rcases hc with hc | hc
      · obtain ⟨a1,a2,o',a3,a4⟩:=hA.2 c hc
        refine⟨a1,a2,o',a3,?_⟩
        rw[List.getD_eq_getElem?_getD,List.getElem?_set_ne (by omega),← List.getD_eq_getElem?_getD]
        exact a4
      · exact absurd hc e
theorem onlyR_get {w o:Nat} (h:o<w) (j:Nat):(onlyR w o).getD j false=decide (j=o):=by
  unfold onlyR
  rw[List.getD_eq_getElem?_getD,List.getElem?_set,List.length_replicate]
  by_cases e:o=j
  · subst e;rw[if_pos rfl,if_pos h,decide_eq_true rfl];rfl
  · rw[if_neg e,List.getElem?_replicate,decide_eq_false (Ne.symm e)]
    split<;>rfl
theorem abp_plan {m:Mdl} {s:St3} (hA:AbP m s) (h:s.2.2=upto m.cls.length) :∃plan,FP m plan∧OneP m s.2.1 plan:=by
  have hex:∀ i,i<m.cls.length→∃ o,o<(m.cls.getD i default).length∧s.2.1.getD i default=onlyR (m.cls.getD i default).length o:=fun i hi=>by
    obtain ⟨_,_,o,h1,h2⟩:=hA.2 (i:Int) (by rw[h,upto_mem];omega)
    rw[Int.toNat_natCast] at h1 h2
    exact⟨o,h1,h2⟩
  have hch :∃f:Nat→Nat,∀ i,i<m.cls.length→f i<(m.cls.getD i default).length∧s.2.1.getD i default=onlyR (m.cls.getD i default).length (f i):=by
    classical
    refine⟨fun i=>if hi:i<m.cls.length then Classical.choose (hex i hi) else 0,fun i hi=>?_⟩
    dsimp only
    rw[dif_pos hi]
    exact Classical.choose_spec (hex i hi)
  obtain ⟨f,hf⟩:=hch
  have hget:∀ i,i<m.cls.length→((List.range m.cls.length).map fun i=>(f i:Int)).getD i 0=(f i:Int):=fun i hi=>by
    rw[List.getD_eq_getElem?_getD,List.getElem?_map,List.getElem?_range hi];rfl
  refine⟨(List.range m.cls.length).map fun i=>(f i:Int),⟨by simp,fun j hj=>?_⟩,fun i hi j=>?_⟩
  · have hj:j<m.cls.length:=by simpa using hj
    have:=(hf j hj).1
    rw[hget j hj]
    exact optB_iff.2 ⟨by omega,by omega,by omega,by rw[Int.toNat_natCast];omega⟩
  · rw[(hf i hi).2,onlyR_get (hf i hi).1,hget i hi,Int.toNat_natCast]
theorem full_law {m:Mdl} {w:Nat} (hm:VM m) (hsome:∀ l∈m.cls,1≤l.length∧l.length≤w) (hsz:szB w m.cls.length≤20000) :
    ∃ n,chkV m (fullF m m.cls.length [])=(n,true)∧n≤1099511627776∧(∀ plan,FP m plan→n≤totalL (rulesV m plan) 0)∧∀ a,a≤1099511627776→(∀ plan,FP m plan→a≤totalL (rulesV m plan) 0)→a≤n:=by
  have h:=fullF_ok hsome m.cls.length (Nat.le_refl _) []
  have hseg:=h.seg
  have hle:=h.le
  rw[List.length_nil] at hseg hle
  rw[Nat.sub_self] at hseg
  have hln:(fullF m m.cls.length []).length≤20000:=by omega
  obtain ⟨n,h1,h2⟩:=Seg.chk hm (show Seg m _ _ 0 _ [] from hseg) hln
  have hsh:=Seg.shaped (show Seg m _ _ 0 _ [] from hseg) hln
  refine⟨n,h1,(chk_leaf (chkV_iff h1).2.2).1,fun plan hp=>chk_bound h1 hp,fun a ha hp=>h2 a ha fun s hs hcl=>?_⟩
  have hq:=Seg.leaves (shaped_down hsh) (show Seg m _ _ 0 _ [] from hseg) (Nat.le_refl _) (allT m) s hs hcl
  have hA:=vs_abp hsh _ (root m) (by show 0<_;have:=h.lt;simpa using this) (Nat.le_refl _) ⟨all_fits hm,fun c hc=>by cases hc⟩ s hs
  obtain ⟨plan,hfp,hone⟩:=abp_plan hA hq
  have hv:=(Seg.visits (shaped_down hsh) (show Seg m _ _ 0 _ [] from hseg) (Nat.le_refl _) (allT m) s hs).2 hcl
  refine Int.le_trans (hp plan hfp) ?_
  have h3:=hv.2
  unfold leafT at h3 ⊢
  split at h3
  · cases h3
  split at h3
  · cases h3
  rename_i h4 h5
  rw[if_neg h4,if_neg h5]
  rw[Bool.not_eq_false,List.all_eq_true] at h5
  exact Int.le_of_eq (exact_law hm hfp _ hA.1 hone _ h5).symm
end T

