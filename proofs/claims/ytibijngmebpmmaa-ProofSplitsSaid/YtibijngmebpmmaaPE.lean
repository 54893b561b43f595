import Derived.Test.YtibijngmebpmmaaPD
import Derived.Test.YtibijngmebpmmaaP7
import Derived.Test.YtibijngmebpmmaaSN
set_option linter.unusedVariables false
set_option linter.unusedSimpArgs false
set_option linter.unnecessarySimpa false
open Go Go.Am
namespace T
theorem runL_true {α:Type} {P:List Nd} {step:α→St3→α × Bool}:∀ {L:List St3} {a r:α},runL P step L a=(r,true)→∀ (J:α→Prop) (R:α→α→Prop),(∀ x,R x x)→(∀ x y z,R x y→R y z→R x z)→(∀ s∈L,∀ x,(step x s).2=true→R x (step x s).1) →
    ∀ s∈L,s.2.2.contains (nd P s.1).cls=false∧∃ x,(step x s).2=true∧R (step x s).1 r
  | [],a,r,h,J,R,h1,h2,h3,s,hs=>by simp at hs
  | t::L,a,r,h,J,R,h1,h2,h3,s,hs=>by
    rw[runL] at h
    split at h
    · cases h
    · rename_i hc
      split at h
      · rename_i hs2
        have ih:=runL_true h J R h1 h2 (fun u hu=>h3 u (by simp[hu]))
        rcases List.mem_cons.1 hs with e | hs
        · subst e
          refine⟨by simpa using hc,a,hs2,?_⟩
          have mono:∀ (L:List St3) (x y:α),(∀ u∈L,∀ x,(step x u).2=true→R x (step x u).1)→runL P step L x=(y,true)→R x y:=by
            intro L
            induction L with
            | nil=>intro x y _ h;rw[runL] at h;cases h;exact h1 _
            | cons u L ihL =>
              intro x y hm h
              rw[runL] at h
              split at h
              · cases h
              · split at h
                · rename_i hu;exact h2 _ _ _ (hm u (by simp) x hu) (ihL _ _ (fun v hv=>hm v (by simp[hv])) h)
                · cases h
          exact mono L _ _ (fun u hu=>h3 u (by simp[hu])) h
        · exact ih s hs
      · cases h
theorem chkV_iff {m:Mdl} {P:List Nd} {n:Int} (h:chkV m P=(n,true)):VM m∧shapedB m P=true∧runL P (chkS m P) (vs P (root m)) 1099511627776=(n,true):=by
  unfold chkV walkV at h
  by_cases h2:validV m=0∧shapedB m P=true
  · rw[if_pos h2] at h
    split at h
    · rename_i h1
      refine⟨valid_iff.1 h2.1,h2.2,?_⟩
      have e:(runL P (chkS m P) (vs P (root m)) 1099511627776).1=n:=congrArg Prod.fst h
      exact Prod.ext e h1
    · cases h
  · rw[if_neg h2] at h
    split at h
    · rename_i h1;cases h1
    · cases h
theorem chkS_mono {m:Mdl} {P:List Nd} (b:Int) (s:St3):(chkS m P b s).1≤b:=by
  unfold chkS
  split
  · exact Int.le_refl _
  split
  · exact Int.le_refl _
  · exact Int.min_le_left ..
theorem chk_leaf {m:Mdl} {P:List Nd} {n:Int} (h:runL P (chkS m P) (vs P (root m)) 1099511627776=(n,true)):n≤1099511627776∧∀ s∈vs P (root m),s.2.2.contains (nd P s.1).cls=false∧((nd P s.1).cls = -1→if 0<(nd P s.1).grp.length then crowdedB m (nd P s.1) s.2.1=true else n≤(leafT m s.2.1 (nd P s.1).mvs).1∧(leafT m s.2.1 (nd P s.1).mvs).2=0):=by
  have hmono:∀ (L:List St3) (a r:Int),runL P (chkS m P) L a=(r,true)→r≤a:=by
    intro L
    induction L with
    | nil=>intro a r h;rw[runL] at h;cases h;exact Int.le_refl _
    | cons s L ih =>
      intro a r h
      rw[runL] at h
      split at h
      · cases h
      · split at h
        · exact Int.le_trans (ih _ _ h) (chkS_mono a s)
        · cases h
  refine⟨hmono _ _ _ h,fun s hs=>?_⟩
  obtain ⟨h1,x,h2,h3⟩:=runL_true h (fun _=>True) (fun x y=>y≤x) (fun x=>Int.le_refl _) (fun x y z h1 h2=>Int.le_trans h2 h1) (fun s _ x _=>chkS_mono x s) s hs
  refine⟨h1,fun hc=>?_⟩
  unfold chkS at h2 h3
  rw[if_neg (by omega)] at h2 h3
  split
  · rename_i hg
    rw[if_pos hg] at h2
    exact h2
  · rename_i hg
    rw[if_neg hg] at h2 h3
    dsimp only at h2 h3
    exact⟨by omega,by simpa using h2⟩
end T
open Go Go.Am
namespace T
theorem chk_of {m:Mdl} {P:List Nd} (hm:VM m) (hs:shapedB m P=true) (h:∀ s∈vs P (root m),s.2.2.contains (nd P s.1).cls=false∧((nd P s.1).cls = -1→(nd P s.1).grp.length=0∧(leafT m s.2.1 (nd P s.1).mvs).2=0)) :
    ∃ n,chkV m P=(n,true)∧∀ a,a≤1099511627776→(∀ s∈vs P (root m),(nd P s.1).cls = -1→a≤(leafT m s.2.1 (nd P s.1).mvs).1)→a≤n:=by
  have key:∀ (L:List St3) (b:Int),(∀ s∈L,s.2.2.contains (nd P s.1).cls=false∧((nd P s.1).cls = -1→(nd P s.1).grp.length=0∧(leafT m s.2.1 (nd P s.1).mvs).2=0)) →
      (runL P (chkS m P) L b).2=true∧∀ a,a≤b→(∀ s∈L,(nd P s.1).cls = -1→a≤(leafT m s.2.1 (nd P s.1).mvs).1)→a≤(runL P (chkS m P) L b).1:=by
    intro L
    induction L with
    | nil=>intro b _;exact⟨rfl,fun a h _=>h⟩
    | cons s L ih =>
      intro b h
      obtain ⟨h1,h2⟩:=h s (by simp)
      have hstep:(chkS m P b s).2=true:=by
        unfold chkS
        by_cases hc:(nd P s.1).cls = -1
        · rw[if_neg (by omega),if_neg (by have:=(h2 hc).1;omega)]
          simp[(h2 hc).2]
        · rw[if_pos hc]
      rw[runL,h1,if_neg (by simp),if_pos hstep]
      obtain ⟨i1,i2⟩:=ih (chkS m P b s).1 fun t ht=>h t (by simp[ht])
      refine⟨i1,fun a ha hl=>i2 a ?_ fun t ht=>hl t (by simp[ht])⟩
      unfold chkS
      by_cases hc:(nd P s.1).cls = -1
      · rw[if_neg (by omega),if_neg (by have:=(h2 hc).1;omega)]
        have:=hl s (by simp) hc
        show a≤min _ _
        omega
      · rw[if_pos hc];exact ha
  obtain ⟨k1,k2⟩:=key (vs P (root m)) 1099511627776 h
  refine⟨(runL P (chkS m P) (vs P (root m)) 1099511627776).1,?_,k2⟩
  have hw:walkV m P (chkS m P) 1099511627776=runL P (chkS m P) (vs P (root m)) 1099511627776:=if_pos ⟨valid_iff.2 hm,hs⟩
  unfold chkV
  rw[hw,if_pos k1]
def leafN (l:List Mv):Nd:=⟨-1,[],l,[],[]⟩
theorem vs_leaf {P:List Nd} (hd:Down P) {s:St3} (hs:s.1<P.length) (hk:(nd P s.1).kids=[]):vs P s=[s]:=by
  rw[vs_step hd hs]
  unfold kidsF kidsT
  rw[hk];rfl
theorem leaf_nil {m:Mdl} (left:List (List Bool)):leafT m left []=(valV m left (S0 m,T0 m),0):=rfl
theorem valV_top {m:Mdl} (left:List (List Bool)) (g:Lg):valV m left g≤1099511627776:=val_top m left g
theorem one_leaf {m:Mdl} (hm:VM m) (l:List Mv) (h0:(leafT m (allT m) l).2=0) :∃n,chkV m [leafN l]=(n,true)∧n=min 1099511627776 (leafT m (allT m) l).1:=by
  have hsh:shapedB m [leafN l]=true:=by
    rw[shaped_end ⟨by show (1:Nat)≤1;decide,by show (1:Nat)≤_;decide⟩ (fun i hi=>by
      have:i=0:=by simp at hi;omega
      subst this;rfl)]
    rfl
  have hvs:vs [leafN l] (root m)=[root m]:=vs_leaf (shaped_down hsh) (by show 0<1;decide) rfl
  obtain ⟨n,h1,h2⟩:=chk_of hm hsh (by
    rw[hvs]
    intro s hs
    rw[List.mem_singleton] at hs
    subst hs
    exact⟨rfl,fun _=>⟨rfl,h0⟩⟩)
  refine⟨n,h1,?_⟩
  have h3:=chk_leaf (chkV_iff h1).2.2
  have h4:=h3.2 (root m) (by rw[hvs];simp)
  have h5:=h4.2 rfl
  rw[if_neg (by show ¬ 0<0;omega)] at h5
  have h6:=h2 (min 1099511627776 (leafT m (allT m) l).1) (Int.min_le_left ..) (by
    rw[hvs]
    intro s hs _
    rw[List.mem_singleton] at hs
    subst hs
    exact Int.min_le_right ..)
  have h7:n≤(leafT m (allT m) l).1:=h5.1
  omega
def splitP (c k:Nat):List Nd:=⟨c,(List.range k).map fun (o:Nat)=>((o+1:Nat):Int),[],[],[]⟩::List.replicate k (leafN [])
theorem split_len (c k:Nat):(splitP c k).length=k+1:=by simp[splitP]
theorem split_nd (c k j:Nat) (h:j<k):nd (splitP c k) (j+1)=leafN []:=by
  unfold nd splitP
  rw[List.getD_cons_succ,List.getD_eq_getElem?_getD,List.getElem?_replicate,if_pos h];rfl
theorem split_allK (c k:Nat):allK (splitP c k)=(List.range k).map fun (o:Nat)=>((o+1:Nat):Int):=by
  unfold allK splitP
  rw[List.flatMap_cons]
  have:∀ k,(List.replicate k (leafN [])).flatMap (·.kids)=[]:=fun k=>by
    induction k with
    | zero=>rfl
    | succ k ih=>rw[List.replicate_succ,List.flatMap_cons,ih];rfl
  rw[this,List.append_nil]
theorem split_shaped {m:Mdl} (hm:VM m) {c:Nat} (hc:c<m.cls.length):shapedB m (splitP c (m.cls.getD c default).length)=true:=by
  have hl:=hm.opt _ (getD_mem (l:=m.cls) (i:=c) (d:=default) hc)
  generalize hk:(m.cls.getD c default).length=k at *
  rw[shaped_end ⟨by rw[split_len];omega,by rw[split_len];omega⟩ (fun i hi=>by
    rw[split_len] at hi
    cases i with
    | zero =>
      show nodeB m _ 0 ⟨c,_,[],[],[]⟩=true
      unfold nodeB ndB
      rw[Bool.and_eq_true,if_neg (by show ¬((c:Int) = -1);omega),decide_eq_true_eq,List.all_eq_true]
      refine⟨⟨by show (0:Int)≤c;omega,by show (c:Int)<_;omega,by show ((List.range k).map _).length=_;rw[List.length_map,List.length_range,Int.toNat_natCast,hk],rfl,rfl,rfl⟩,fun x hx=>?_⟩
      obtain ⟨o,ho,rfl⟩:=List.mem_map.1 hx
      have:=List.mem_range.1 ho
      unfold kidB
      rw[split_len,decide_eq_true_eq];omega
    | succ i =>
      have:=split_nd c k i (by omega)
      unfold nd at this
      rw[this]
      rfl)]
  rw[Bool.not_eq_true',List.any_eq_false]
  intro x hx
  rw[split_allK] at hx
  unfold parV at hx
  rw[← List.map_drop] at hx
  obtain ⟨j,hj,rfl⟩:=List.mem_map.1 hx
  rw[split_len] at hj
  have hj2:1≤j∧j<k+1:=by
    obtain ⟨i,hi,rfl⟩:=List.getElem_of_mem hj
    rw[List.length_drop,List.length_range] at hi
    rw[List.getElem_drop,List.getElem_range];omega
  have hcount:((List.range k).map fun (o:Nat)=>((o+1:Nat):Int)).count (j:Int)=1:=by
    have hnd:((List.range k).map fun (o:Nat)=>((o+1:Nat):Int)).Nodup:=by
      unfold List.Nodup
      rw[List.pairwise_map]
      exact List.nodup_range.imp fun h=>by omega
    have hmem:(j:Int)∈(List.range k).map fun (o:Nat)=>((o+1:Nat):Int):=List.mem_map.2 ⟨j - 1,List.mem_range.2 (by omega),by omega⟩
    rw[hnd.count,if_pos hmem]
  rw[hcount];decide
theorem only_sub {left:List (List Bool)} (c o:Nat) (h:(left.getD c default).getD o false=true):SubP (onlyV left c o) left:=fun i j hb=>by
  unfold onlyV at hb
  by_cases hi:i<left.length
  · by_cases e:c=i
    · subst e
      rw[getD_set _ _ _ hi] at hb
      unfold onlyR at hb
      rw[List.getD_eq_getElem?_getD,List.getElem?_set] at hb
      split at hb
      · rename_i e;subst e;exact h
      · rw[List.getElem?_replicate] at hb
        split at hb<;>cases hb
    · rw[List.getD_eq_getElem?_getD (l:=left.set _ _),List.getElem?_set_ne e,← List.getD_eq_getElem?_getD] at hb
      exact hb
  · rw[List.getD_eq_getElem?_getD (l:=left.set _ _),List.getElem?_eq_none (by rw[List.length_set];omega)] at hb
    cases hb
theorem all_get {m:Mdl} (hm:VM m) {c o:Nat} (hc:c<m.cls.length) (ho:o<(m.cls.getD c default).length):((allT m).getD c default).getD o false=true:=by
  unfold allT
  rw[if_pos (valid_iff.2 hm)]
  unfold allV
  rw[map_getD _ _ _ hc,List.getD_eq_getElem?_getD,List.getElem?_replicate,if_pos ho];rfl
theorem splits_law {m:Mdl} (hm:VM m) {c:Nat} (hc:c<m.cls.length) :∃n,chkV m (splitP c (m.cls.getD c default).length)=(n,true)∧valV m (allT m) (S0 m,T0 m)≤n:=by
  have hsh:=split_shaped hm hc
  have hd:=shaped_down hsh
  have hfit:=all_fits hm
  generalize hk:(m.cls.getD c default).length=k at *
  have hmem:∀ s∈vs (splitP c k) (root m),s=root m∨∃ o,o<k∧s=(o+1,onlyV (allT m) c o,[(c:Int)]):=fun s hs=>by
    rw[vs_step hd (by show 0<_;rw[split_len];omega),List.mem_cons] at hs
    rcases hs with hs | hs
    · exact .inl hs
    · obtain ⟨t,ht,hs⟩:=List.mem_flatMap.1 hs
      obtain ⟨o,ho,rfl⟩:=kid_mem (List.mem_reverse.1 ht)
      have ho':o<k:=by
        have:(nd (splitP c k) (root m).1).kids.length=k:=by show (((List.range k).map _).length)=k;simp
        omega
      have hks:kidS (splitP c k) (root m) o=(o+1,onlyV (allT m) c o,[(c:Int)]):=by
        unfold kidS
        have:(nd (splitP c k) (root m).1).kids.getD o 0=((o+1:Nat):Int):=by
          show ((List.range k).map _).getD o 0=_
          rw[List.getD_eq_getElem?_getD,List.getElem?_map,List.getElem?_range ho'];rfl
        rw[this];rfl
      rw[hks,vs_leaf hd (by show o+1<_;rw[split_len];omega) (by show (nd (splitP c k) (o+1)).kids=[];rw[split_nd c k o ho'];rfl)] at hs
      rw[List.mem_singleton] at hs
      exact .inr ⟨o,ho',hs⟩
  obtain ⟨n,h1,h2⟩:=chk_of hm hsh (fun s hs=>by
    rcases hmem s hs with rfl | ⟨o,ho,rfl⟩
    · refine⟨rfl,fun h=>?_⟩
      exact absurd (show (c:Int) = -1 from h) (by omega)
    · dsimp only
      rw[split_nd c k o ho]
      refine⟨?_,fun _=>⟨rfl,rfl⟩⟩
      show [(c:Int)].contains (-1)=false
      have:((-1:Int) == (c:Int))=false:=by rw[beq_eq_false_iff_ne];omega
      rw[List.contains_cons,this];rfl)
  refine⟨n,h1,h2 _ (valV_top _ _) fun s hs hcl=>?_⟩
  rcases hmem s hs with rfl | ⟨o,ho,rfl⟩
  · exact absurd (show (c:Int) = -1 from hcl) (by omega)
  · dsimp only
    rw[split_nd c k o ho]
    show _≤(leafT m (onlyV (allT m) c o) []).1
    rw[leaf_nil]
    exact narrow_law hm hfit (fits_map hfit (onlyV_len _ _ _)) (only_sub c o (all_get hm hc (by omega))) _
end T

