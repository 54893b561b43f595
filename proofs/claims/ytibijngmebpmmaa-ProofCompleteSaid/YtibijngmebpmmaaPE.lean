import Derived.Test.YtibijngmebpmmaaPD
import Derived.Test.YtibijngmebpmmaaP7
import Derived.Test.YtibijngmebpmmaaSN
set_option linter.unusedVariables false
set_option linter.unusedSimpArgs false
set_option linter.unnecessarySimpa false
open Go Go.Am
namespace T
theorem runL_true {α:Type} {P:List Nd} {step:α→St3→α × Bool}:∀ {L:List St3} {a r:α},runL P step L a=(r,true)→∀ (J:α→Prop) (R:α→α→Prop),(∀ x,R x x)→(∀ x y z,R x y→R y z→R x z)→(∀ s∈L,∀ x,(step x s).2=true→R x (step x s).1) →
    ∀ s∈L,s.2.2.contains (nd P s.1).cls=false∧∃ x,(step x s).2=true∧R (step x s).1 r
  | [],a,r,h,J,R,h1,h2,h3,s,hs=>by simp at hs
  | t::L,a,r,h,J,R,h1,h2,h3,s,hs=>by
    rw[runL] at h
    split at h
    · cases h
    · rename_i hc
      split at h
      · rename_i hs2
        have ih:=runL_true h J R h1 h2 (fun u hu=>h3 u (by simp[hu]))
        rcases List.mem_cons.1 hs with e | hs
        · subst e
          refine⟨by simpa using hc,a,hs2,?_⟩
          have mono:∀ (L:List St3) (x y:α),(∀ u∈L,∀ x,(step x u).2=true→R x (step x u).1)→runL P step L x=(y,true)→R x y:=by
            intro L
            induction L with
            | nil=>intro x y _ h;rw[runL] at h;cases h;exact h1 _
            | cons u L ihL =>
              intro x y hm h
              rw[runL] at h
              split at h
              · cases h
              · split at h
                · rename_i hu;exact h2 _ _ _ (hm u (by simp) x hu) (ihL _ _ (fun v hv=>hm v (by simp[hv])) h)
                · cases h
          exact mono L _ _ (fun u hu=>h3 u (by simp[hu])) h
        · exact ih s hs
      · cases h
theorem chkV_iff {m:Mdl} {P:List Nd} {n:Int} (h:chkV m P=(n,true)):VM m∧shapedB m P=true∧runL P (chkS m P) (vs P (root m)) 1099511627776=(n,true):=by
  unfold chkV walkV at h
  by_cases h2:validV m=0∧shapedB m P=true
  · rw[if_pos h2] at h
    split at h
    · rename_i h1
      refine⟨valid_iff.1 h2.1,h2.2,?_⟩
      have e:(runL P (chkS m P) (vs P (root m)) 1099511627776).1=n:=congrArg Prod.fst h
      exact Prod.ext e h1
    · cases h
  · rw[if_neg h2] at h
    split at h
    · rename_i h1;cases h1
    · cases h
theorem chkS_mono {m:Mdl} {P:List Nd} (b:Int) (s:St3):(chkS m P b s).1≤b:=by
  unfold chkS
  split
  · exact Int.le_refl _
  split
  · exact Int.le_refl _
  · exact Int.min_le_left ..
theorem chk_leaf {m:Mdl} {P:List Nd} {n:Int} (h:runL P (chkS m P) (vs P (root m)) 1099511627776=(n,true)):n≤1099511627776∧∀ s∈vs P (root m),s.2.2.contains (nd P s.1).cls=false∧((nd P s.1).cls = -1→if 0<(nd P s.1).grp.length then crowdedB m (nd P s.1) s.2.1=true else n≤(leafT m s.2.1 (nd P s.1).mvs).1∧(leafT m s.2.1 (nd P s.1).mvs).2=0):=by
  have hmono:∀ (L:List St3) (a r:Int),runL P (chkS m P) L a=(r,true)→r≤a:=by
    intro L
    induction L with
    | nil=>intro a r h;rw[runL] at h;cases h;exact Int.le_refl _
    | cons s L ih =>
      intro a r h
      rw[runL] at h
      split at h
      · cases h
      · split at h
        · exact Int.le_trans (ih _ _ h) (chkS_mono a s)
        · cases h
  refine⟨hmono _ _ _ h,fun s hs=>?_⟩
  obtain ⟨h1,x,h2,h3⟩:=runL_true h (fun _=>True) (fun x y=>y≤x) (fun x=>Int.le_refl _) (fun x y z h1 h2=>Int.le_trans h2 h1) (fun s _ x _=>chkS_mono x s) s hs
  refine⟨h1,fun hc=>?_⟩
  unfold chkS at h2 h3
  rw[if_neg (by omega)] at h2 h3
  split
  · rename_i hg
    rw[if_pos hg] at h2
    exact h2
  · rename_i hg
    rw[if_neg hg] at h2 h3
    dsimp only at h2 h3
    exact⟨by omega,by simpa using h2⟩
theorem plan_leaf {m:Mdl} {P:List Nd} (hm:VM m) (hs:shapedB m P=true) {plan:List Int} (hp:FP m plan):∀ (f:Nat) (s:St3),GoodS m P s→P.length - s.1≤f→InP m s.2.1 plan→∃ t∈vs P s,GoodS m P t∧(nd P t.1).cls = -1∧InP m t.2.1 plan:=by
  have hd:=shaped_down hs
  intro f
  induction f with
  | zero=>intro s hg hf;have:=hg.1;omega
  | succ f ih =>
    intro s hg hf hin
    rw[vs_step hd hg.1]
    by_cases hc:(nd P s.1).cls = -1
    · exact⟨s,by simp,hg,hc,hin⟩
    · have hn:=shaped_node hs hg.1
      unfold nodeB ndB at hn
      rw[Bool.and_eq_true,if_neg hc,decide_eq_true_eq] at hn
      obtain ⟨⟨c1,c2,c3,_⟩,_⟩:=hn
      have hpl:=hp.len
      have hgp:=hp.get (nd P s.1).cls.toNat (by omega)
      rw[Int.toNat_of_nonneg c1] at hgp
      obtain ⟨o1,o2,o3,o4⟩:=optB_iff.1 hgp
      have ho:(plan.getD (nd P s.1).cls.toNat 0).toNat<(nd P s.1).kids.length:=by omega
      have hk:=kid_in hd hg.1 ho
      have hfl:=hg.2.1.1
      have hrow:=hg.2.1.2 (nd P s.1).cls.toNat (by omega)
      obtain ⟨t,ht,h2⟩:=ih (kidS P s (plan.getD (nd P s.1).cls.toNat 0).toNat) (good_kid hd hg ho) (by omega) (fun i hi=>by
        show ((onlyV s.2.1 (nd P s.1).cls.toNat (plan.getD (nd P s.1).cls.toNat 0).toNat).getD i default).getD _ false=true
        unfold onlyV
        by_cases e:(nd P s.1).cls.toNat=i
        · subst e
          rw[getD_set _ _ _ (by omega)]
          unfold onlyR
          rw[List.getD_eq_getElem?_getD,List.getElem?_set,if_pos rfl,if_pos (by rw[List.length_replicate,hrow];omega)];rfl
        · rw[List.getD_eq_getElem?_getD (l:=s.2.1.set _ _),List.getElem?_set_ne e,← List.getD_eq_getElem?_getD]
          exact hin i hi)
      refine⟨t,List.mem_cons_of_mem _ (List.mem_flatMap.2 ⟨_,?_,ht⟩),h2⟩
      rw[List.mem_reverse]
      exact List.mem_map.2 ⟨_,List.mem_range.2 ho,rfl⟩
theorem sumN_ge:∀ (f:Nat→Int) (n i:Nat),(∀ j,j<n→0≤f j)→i<n→f i≤sumN f n
  | f,0,i,_,h=>by omega
  | f,n+1,i,h0,h=>by
    rw[sumN]
    have hnn:∀ n,(∀ j,j<n→0≤f j)→0≤sumN f n:=fun n=>by
      induction n with
      | zero=>intro _;exact Int.le_refl _
      | succ n ih=>intro h;rw[sumN];have:=ih fun j hj=>h j (by omega);have:=h n (by omega);omega
    by_cases e:i=n
    · subst e;have:=hnn i fun j hj=>h0 j (by omega);omega
    · have:=sumN_ge f n i (fun j hj=>h0 j (by omega)) (by omega);have:=h0 n (by omega);omega
theorem sumN_nn (f:Nat→Int) (n:Nat) (h:∀ j,j<n→0≤f j):0≤sumN f n:=by
  induction n with
  | zero=>exact Int.le_refl _
  | succ n ih=>rw[sumN];have:=ih fun j hj=>h j (by omega);have:=h n (by omega);omega
theorem own_nn {m:Mdl} (hm:VM m) {plan:List Int} (hp:FP m plan) {j:Nat} (hj:j<m.cls.length):0≤ownP m plan j:=by
  have h0:=hp.get j (by rw[hp.len];exact hj)
  obtain ⟨b1,b2,b3,b4⟩:=optB_iff.1 h0
  rw[Int.toNat_natCast] at b4
  have hl:=getD_mem (l:=m.cls) (i:=j) (d:=default) hj
  have ho:=getD_mem (l:=m.cls.getD j default) (i:=(plan.getD j 0).toNat) (d:=default) (by omega)
  have:=ownS_in (hm.chs _ hl _ ho)
  unfold In41 at this
  unfold ownP;omega
theorem ent_nn {m:Mdl} (hm:VM m) (plan:List Int) {i:Nat} (hi:i<m.prs.length):0≤entP m plan (m.prs.getD i default):=by
  have hpb:=prsL_mem hm.pr _ (getD_mem (l:=m.prs) (i:=i) (d:=default) hi)
  have:=entry_in hpb (plan.getD (m.prs.getD i default).fst.toNat 0) (plan.getD (m.prs.getD i default).snd.toNat 0)
  unfold In41 at this
  unfold entP;omega
theorem exc_nn {m:Mdl} (hm:VM m) (plan:List Int) {i:Nat} (hi:i<m.cts.length):0≤excP plan (m.cts.getD i default):=by
  obtain ⟨q1,q2,q3,q4⟩:=ctB_iff (hm.ct _ (getD_mem (l:=m.cts) (i:=i) (d:=default) hi))
  have:=excV_in (most:=(m.cts.getD i default).most) (sum:=loadS plan (m.cts.getD i default).loads 0) (price_in q3)
  unfold In41 at this
  unfold excP;omega
theorem clash_total {m:Mdl} (hm:VM m) {plan:List Int} (hp:FP m plan) {a b:Int} (h:clV m a (plan.getD a.toNat 0) b (plan.getD b.toNat 0)=true):totalL (rulesV m plan) 0=1099511627776:=by
  have hex :∃p∈m.prs,entP m plan p=1099511627776:=by
    unfold clV at h
    split at h
    · obtain ⟨p,hp,h⟩:=List.any_eq_true.1 h
      unfold clP at h
      rw[decide_eq_true_eq] at h
      exact⟨p,hp,by unfold entP;rw[h.1,h.2.1];exact h.2.2⟩
    · obtain ⟨p,hp,h⟩:=List.any_eq_true.1 h
      unfold clP at h
      rw[decide_eq_true_eq] at h
      exact⟨p,hp,by unfold entP;rw[h.1,h.2.1];exact h.2.2⟩
  obtain ⟨p,hpm,he⟩:=hex
  obtain ⟨i,hi,rfl⟩:=List.getElem_of_mem hpm
  rw[total_sum hm hp]
  have h1:=sumN_nn (ownP m plan) m.cls.length fun j hj=>own_nn hm hp hj
  have h2:=sumN_ge (fun i=>entP m plan (m.prs.getD i default)) m.prs.length i (fun j hj=>ent_nn hm plan hj) hi
  have h3:=sumN_nn (fun i=>excP plan (m.cts.getD i default)) m.cts.length fun j hj=>exc_nn hm plan hj
  have e:m.prs.getD i default=m.prs[i]:=by rw[List.getD_eq_getElem?_getD,List.getElem?_eq_getElem hi];rfl
  rw[e,he] at h2
  omega
theorem nodup_lenN:∀ (n:Nat) (l:List Nat),l.Nodup→(∀ x∈l,x<n)→l.length≤n
  | 0,l,_,h=>by
    cases l with
    | nil=>simp
    | cons x l=>have:=h x (by simp);omega
  | n+1,l,hn,h=>by
    have h1:=nodup_lenN n (l.erase n) (hn.erase n) (fun x hx=>by
      have h2:=(hn.mem_erase_iff).1 hx
      have:=h x h2.2
      have:=h2.1
      omega)
    rw[List.length_erase] at h1
    split at h1<;>omega
theorem pigeon {n:Nat}:∀ (l:List Nat),l.length > n→(∀ x∈l,x<n)→∃ i j,i<j∧j<l.length∧l[i]?=l[j]?:=by
  intro l hl hx
  by_cases hn:l.Nodup
  · exfalso
    have h2:=nodup_lenN n l hn hx
    omega
  · unfold List.Nodup at hn
    rw[List.pairwise_iff_getElem] at hn
    simp only[Classical.not_forall,Decidable.not_not] at hn
    obtain ⟨i,j,hi,hj,hij,he⟩:=hn
    exact⟨i,j,hij,hj,by rw[List.getElem?_eq_getElem hi,List.getElem?_eq_getElem hj,he]⟩
theorem crowd_total {m:Mdl} (hm:VM m) {plan:List Int} (hp:FP m plan) {x:Nd} {left:List (List Bool)} (hf:FitsP m left) (hin:InP m left plan) (h:crowdedB m x left=true):totalL (rulesV m plan) 0=1099511627776:=by
  unfold crowdedB at h
  simp only[Bool.and_eq_true,decide_eq_true_eq] at h
  obtain ⟨⟨⟨h1,h2⟩,h3⟩,h4⟩:=h
  have hgm:=gr_mem h1
  rw[List.all_eq_true] at h3 h4
  have hcell:∀ c∈x.grp,∃ i,i<x.cells.length∧(c,plan.getD c.toNat 0)∈x.cells.getD i default:=fun c hc=>by
    have hcr:=hgm c hc
    have hcv:=h4 c hc
    unfold covB at hcv
    have hpl:=hp.len
    have hg:=hp.get c.toNat (by omega)
    obtain ⟨b1,b2,b3,b4⟩:=optB_iff.1 hg
    rw[Int.toNat_natCast] at b4
    have hr:=hf.2 c.toNat (by have:=hf.1;omega)
    have h5:=all_range.1 hcv (plan.getD c.toNat 0).toNat (by omega)
    rw[hin c.toNat (by omega),Bool.not_true,Bool.false_or,List.any_eq_true] at h5
    obtain ⟨l,hl,h6⟩:=h5
    rw[List.any_eq_true] at h6
    obtain ⟨y,hy,h7⟩:=h6
    unfold isC at h7
    rw[decide_eq_true_eq,Int.toNat_of_nonneg b3] at h7
    obtain ⟨i,hi,rfl⟩:=List.getElem_of_mem hl
    refine⟨i,hi,?_⟩
    rw[List.getD_eq_getElem?_getD,List.getElem?_eq_getElem hi,Option.getD_some,← h7]
    exact hy
  have hch :∃f:Int→Nat,∀ c∈x.grp,f c<x.cells.length∧(c,plan.getD c.toNat 0)∈x.cells.getD (f c) default:=by
    classical
    refine⟨fun c=>if hc:c∈x.grp then Classical.choose (hcell c hc) else 0,fun c hc=>?_⟩
    dsimp only
    rw[dif_pos hc]
    exact Classical.choose_spec (hcell c hc)
  obtain ⟨f,hf2⟩:=hch
  obtain ⟨i,j,hij,hj,he⟩:=pigeon (n:=x.cells.length) (x.grp.map f) (by simpa using h2) (fun y hy=>by
    obtain ⟨c,hc,rfl⟩:=List.mem_map.1 hy
    exact (hf2 c hc).1)
  rw[List.length_map] at hj
  rw[List.getElem?_map,List.getElem?_map,List.getElem?_eq_getElem (by omega),List.getElem?_eq_getElem hj] at he
  simp only[Option.map_some,Option.some.injEq] at he
  have hlt:∀ j,j<x.grp.length→∀ i,i<j→x.grp.getD i 0<x.grp.getD j 0:=by
    intro j
    induction j with
    | zero=>intro _ i hi;omega
    | succ j ih =>
      intro hj i hi
      have h5:=all_range.1 h1 (j+1) hj
      rw[decide_eq_true_eq] at h5
      have h6:x.grp.getD j 0<x.grp.getD (j+1) 0:=by
        rcases h5.2.2 with h | h
        · omega
        · simpa using h
      by_cases e:i=j
      · subst e;exact h6
      · have:=ih (by omega) i (by omega);omega
  have hne:=hlt j hj i hij
  rw[List.getD_eq_getElem?_getD,List.getD_eq_getElem?_getD,List.getElem?_eq_getElem (by omega),List.getElem?_eq_getElem hj,Option.getD_some,Option.getD_some] at hne
  have m1:=(hf2 x.grp[i] (List.getElem_mem _)).2
  have m2:=(hf2 x.grp[j] (List.getElem_mem _)).2
  rw[he] at m1
  have hcl:=(hf2 x.grp[j] (List.getElem_mem _)).1
  generalize x.grp[i]=a at *
  generalize x.grp[j]=b at *
  have h5:=h3 _ (getD_mem (d:=default) hcl)
  generalize x.cells.getD (f b) default=l at *
  unfold cellB at h5
  have key:∀ u v:Int × Int,u∈l→v∈l→u.1≠v.1→clV m u.1 u.2 v.1 v.2=true:=fun u v hu hv hne=>by
    obtain ⟨p,hp',rfl⟩:=List.getElem_of_mem hu
    obtain ⟨q,hq',rfl⟩:=List.getElem_of_mem hv
    have one:∀ p q (hp:p<l.length) (hq:q<p),l[p].1≠l[q].1→clV m l[p].1 l[p].2 l[q].1 l[q].2=true:=fun p q hp hq hne=>by
      have h6:=all_range.1 h5 p hp
      unfold cellF at h6
      rw[Bool.and_eq_true,List.all_eq_true,List.getD_eq_getElem?_getD,List.getElem?_eq_getElem hp,Option.getD_some] at h6
      have h7:=h6.2 l[q] (by rw[List.mem_take_iff_getElem];exact⟨q,by omega,rfl⟩)
      unfold apB at h7
      rw[decide_eq_false hne,Bool.false_or] at h7
      exact h7
    rcases Nat.lt_trichotomy p q with h | h | h
    · rw[clV_comm hne];exact one q p hq' h (Ne.symm hne)
    · subst h;exact absurd rfl hne
    · exact one p q hp' h hne
  exact clash_total hm hp (key _ _ m1 m2 (by dsimp only;omega))
theorem chk_bound {m:Mdl} {P:List Nd} {n:Int} (h:chkV m P=(n,true)) {plan:List Int} (hp:FP m plan):n≤totalL (rulesV m plan) 0:=by
  obtain ⟨hm,hs,hr⟩:=chkV_iff h
  obtain ⟨hn,hl⟩:=chk_leaf hr
  have hlen:=shaped_len hs
  have hfit:=all_fits hm
  obtain ⟨t,ht,hg,hc,hin⟩:=plan_leaf hm hs hp P.length (root m) ⟨by show 0<_;omega,hfit,Nat.le_refl _⟩ (by omega) (fun i hi=>by
    show ((allT m).getD i default).getD _ false=true
    have hg:=hp.get i (by rw[hp.len];exact hi)
    obtain ⟨b1,b2,b3,b4⟩:=optB_iff.1 hg
    rw[Int.toNat_natCast] at b4
    unfold allT
    rw[if_pos (valid_iff.2 hm)]
    unfold allV
    rw[map_getD _ _ _ hi,List.getD_eq_getElem?_getD,List.getElem?_replicate,if_pos (by omega)];rfl)
  have h2:=(hl t ht).2 hc
  split at h2
  · rw[crowd_total hm hp hg.2.1 hin h2];exact hn
  · refine Int.le_trans h2.1 ?_
    have h3:=h2.2
    unfold leafT at h3 ⊢
    split at h3
    · cases h3
    split at h3
    · cases h3
    rename_i h4 h5
    rw[if_neg h4,if_neg h5]
    rw[Bool.not_eq_false,List.all_eq_true] at h5
    exact bound_law hm hp _ hg.2.1 hin _ h5
end T
open Go Go.Am
namespace T
theorem chk_of {m:Mdl} {P:List Nd} (hm:VM m) (hs:shapedB m P=true) (h:∀ s∈vs P (root m),s.2.2.contains (nd P s.1).cls=false∧((nd P s.1).cls = -1→(nd P s.1).grp.length=0∧(leafT m s.2.1 (nd P s.1).mvs).2=0)) :
    ∃ n,chkV m P=(n,true)∧∀ a,a≤1099511627776→(∀ s∈vs P (root m),(nd P s.1).cls = -1→a≤(leafT m s.2.1 (nd P s.1).mvs).1)→a≤n:=by
  have key:∀ (L:List St3) (b:Int),(∀ s∈L,s.2.2.contains (nd P s.1).cls=false∧((nd P s.1).cls = -1→(nd P s.1).grp.length=0∧(leafT m s.2.1 (nd P s.1).mvs).2=0)) →
      (runL P (chkS m P) L b).2=true∧∀ a,a≤b→(∀ s∈L,(nd P s.1).cls = -1→a≤(leafT m s.2.1 (nd P s.1).mvs).1)→a≤(runL P (chkS m P) L b).1:=by
    intro L
    induction L with
    | nil=>intro b _;exact⟨rfl,fun a h _=>h⟩
    | cons s L ih =>
      intro b h
      obtain ⟨h1,h2⟩:=h s (by simp)
      have hstep:(chkS m P b s).2=true:=by
        unfold chkS
        by_cases hc:(nd P s.1).cls = -1
        · rw[if_neg (by omega),if_neg (by have:=(h2 hc).1;omega)]
          simp[(h2 hc).2]
        · rw[if_pos hc]
      rw[runL,h1,if_neg (by simp),if_pos hstep]
      obtain ⟨i1,i2⟩:=ih (chkS m P b s).1 fun t ht=>h t (by simp[ht])
      refine⟨i1,fun a ha hl=>i2 a ?_ fun t ht=>hl t (by simp[ht])⟩
      unfold chkS
      by_cases hc:(nd P s.1).cls = -1
      · rw[if_neg (by omega),if_neg (by have:=(h2 hc).1;omega)]
        have:=hl s (by simp) hc
        show a≤min _ _
        omega
      · rw[if_pos hc];exact ha
  obtain ⟨k1,k2⟩:=key (vs P (root m)) 1099511627776 h
  refine⟨(runL P (chkS m P) (vs P (root m)) 1099511627776).1,?_,k2⟩
  have hw:walkV m P (chkS m P) 1099511627776=runL P (chkS m P) (vs P (root m)) 1099511627776:=if_pos ⟨valid_iff.2 hm,hs⟩
  unfold chkV
  rw[hw,if_pos k1]
def leafN (l:List Mv):Nd:=⟨-1,[],l,[],[]⟩
theorem vs_leaf {P:List Nd} (hd:Down P) {s:St3} (hs:s.1<P.length) (hk:(nd P s.1).kids=[]):vs P s=[s]:=by
  rw[vs_step hd hs]
  unfold kidsF kidsT
  rw[hk];rfl
end T

