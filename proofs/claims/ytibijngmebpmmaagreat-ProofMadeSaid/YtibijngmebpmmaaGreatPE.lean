import Derived.Test.YtibijngmebpmmaaGreatPD
import Derived.Test.YtibijngmebpmmaaGreatP7
import Derived.Test.YtibijngmebpmmaaGreatSN
set_option linter.unusedVariables false
set_option linter.unusedSimpArgs false
set_option linter.unnecessarySimpa false
open Go Go.Am
namespace T
theorem runL_true {α:Type} {P:List Nd} {step:α→St3→α × Bool}:∀ {L:List St3} {a r:α},runL P step L a=(r,true)→∀ (J:α→Prop) (R:α→α→Prop),(∀ x,R x x)→(∀ x y z,R x y→R y z→R x z)→(∀ s∈L,∀ x,(step x s).2=true→R x (step x s).1) →
    ∀ s∈L,s.2.2.contains (nd P s.1).cls=false∧∃ x,(step x s).2=true∧R (step x s).1 r
  | [],a,r,h,J,R,h1,h2,h3,s,hs=>by simp at hs
  | t::L,a,r,h,J,R,h1,h2,h3,s,hs=>by
    rw[runL] at h
    split at h
    · cases h
    · rename_i hc
      split at h
      · rename_i hs2
        have ih:=runL_true h J R h1 h2 (fun u hu=>h3 u (by simp[hu]))
        rcases List.mem_cons.1 hs with e | hs
        · subst e
          refine⟨by simpa using hc,a,hs2,?_⟩
          have mono:∀ (L:List St3) (x y:α),(∀ u∈L,∀ x,(step x u).2=true→R x (step x u).1)→runL P step L x=(y,true)→R x y:=by
            intro L
            induction L with
            | nil=>intro x y _ h;rw[runL] at h;cases h;exact h1 _
            | cons u L ihL =>
              intro x y hm h
              rw[runL] at h
              split at h
              · cases h
              · split at h
                · rename_i hu;exact h2 _ _ _ (hm u (by simp) x hu) (ihL _ _ (fun v hv=>hm v (by simp[hv])) h)
                · cases h
          exact mono L _ _ (fun u hu=>h3 u (by simp[hu])) h
        · exact ih s hs
      · cases h
theorem chkV_iff {m:Mdl} {P:List Nd} {n:Int} (h:chkV m P=(n,true)):VM m∧shapedB m P=true∧runL P (chkS m P) (vs P (root m)) 1099511627776=(n,true):=by
  unfold chkV walkV at h
  by_cases h2:validV m=0∧shapedB m P=true
  · rw[if_pos h2] at h
    split at h
    · rename_i h1
      refine⟨valid_iff.1 h2.1,h2.2,?_⟩
      have e:(runL P (chkS m P) (vs P (root m)) 1099511627776).1=n:=congrArg Prod.fst h
      exact Prod.ext e h1
    · cases h
  · rw[if_neg h2] at h
    split at h
    · rename_i h1;cases h1
    · cases h
theorem chkS_mono {m:Mdl} {P:List Nd} (b:Int) (s:St3):(chkS m P b s).1≤b:=by
  unfold chkS
  split
  · exact Int.le_refl _
  split
  · exact Int.le_refl _
  · exact Int.min_le_left ..
theorem chk_leaf {m:Mdl} {P:List Nd} {n:Int} (h:runL P (chkS m P) (vs P (root m)) 1099511627776=(n,true)):n≤1099511627776∧∀ s∈vs P (root m),s.2.2.contains (nd P s.1).cls=false∧((nd P s.1).cls = -1→if 0<(nd P s.1).grp.length then crowdedB m (nd P s.1) s.2.1=true else n≤(leafT m s.2.1 (nd P s.1).mvs).1∧(leafT m s.2.1 (nd P s.1).mvs).2=0):=by
  have hmono:∀ (L:List St3) (a r:Int),runL P (chkS m P) L a=(r,true)→r≤a:=by
    intro L
    induction L with
    | nil=>intro a r h;rw[runL] at h;cases h;exact Int.le_refl _
    | cons s L ih =>
      intro a r h
      rw[runL] at h
      split at h
      · cases h
      · split at h
        · exact Int.le_trans (ih _ _ h) (chkS_mono a s)
        · cases h
  refine⟨hmono _ _ _ h,fun s hs=>?_⟩
  obtain ⟨h1,x,h2,h3⟩:=runL_true h (fun _=>True) (fun x y=>y≤x) (fun x=>Int.le_refl _) (fun x y z h1 h2=>Int.le_trans h2 h1) (fun s _ x _=>chkS_mono x s) s hs
  refine⟨h1,fun hc=>?_⟩
  unfold chkS at h2 h3
  rw[if_neg (by omega)] at h2 h3
  split
  · rename_i hg
    rw[if_pos hg] at h2
    exact h2
  · rename_i hg
    rw[if_neg hg] at h2 h3
    dsimp only at h2 h3
    exact⟨by omega,by simpa using h2⟩
end T
open Go Go.Am
namespace T
theorem chk_of {m:Mdl} {P:List Nd} (hm:VM m) (hs:shapedB m P=true) (h:∀ s∈vs P (root m),s.2.2.contains (nd P s.1).cls=false∧((nd P s.1).cls = -1→(nd P s.1).grp.length=0∧(leafT m s.2.1 (nd P s.1).mvs).2=0)) :
    ∃ n,chkV m P=(n,true)∧∀ a,a≤1099511627776→(∀ s∈vs P (root m),(nd P s.1).cls = -1→a≤(leafT m s.2.1 (nd P s.1).mvs).1)→a≤n:=by
  have key:∀ (L:List St3) (b:Int),(∀ s∈L,s.2.2.contains (nd P s.1).cls=false∧((nd P s.1).cls = -1→(nd P s.1).grp.length=0∧(leafT m s.2.1 (nd P s.1).mvs).2=0)) →
      (runL P (chkS m P) L b).2=true∧∀ a,a≤b→(∀ s∈L,(nd P s.1).cls = -1→a≤(leafT m s.2.1 (nd P s.1).mvs).1)→a≤(runL P (chkS m P) L b).1:=by
    intro L
    induction L with
    | nil=>intro b _;exact⟨rfl,fun a h _=>h⟩
    | cons s L ih =>
      intro b h
      obtain ⟨h1,h2⟩:=h s (by simp)
      have hstep:(chkS m P b s).2=true:=by
        unfold chkS
        by_cases hc:(nd P s.1).cls = -1
        · rw[if_neg (by omega),if_neg (by have:=(h2 hc).1;omega)]
          simp[(h2 hc).2]
        · rw[if_pos hc]
      rw[runL,h1,if_neg (by simp),if_pos hstep]
      obtain ⟨i1,i2⟩:=ih (chkS m P b s).1 fun t ht=>h t (by simp[ht])
      refine⟨i1,fun a ha hl=>i2 a ?_ fun t ht=>hl t (by simp[ht])⟩
      unfold chkS
      by_cases hc:(nd P s.1).cls = -1
      · rw[if_neg (by omega),if_neg (by have:=(h2 hc).1;omega)]
        have:=hl s (by simp) hc
        show a≤min _ _
        omega
      · rw[if_pos hc];exact ha
  obtain ⟨k1,k2⟩:=key (vs P (root m)) 1099511627776 h
  refine⟨(runL P (chkS m P) (vs P (root m)) 1099511627776).1,?_,k2⟩
  have hw:walkV m P (chkS m P) 1099511627776=runL P (chkS m P) (vs P (root m)) 1099511627776:=if_pos ⟨valid_iff.2 hm,hs⟩
  unfold chkV
  rw[hw,if_pos k1]
def leafN (l:List Mv):Nd:=⟨-1,[],l,[],[]⟩
theorem vs_leaf {P:List Nd} (hd:Down P) {s:St3} (hs:s.1<P.length) (hk:(nd P s.1).kids=[]):vs P s=[s]:=by
  rw[vs_step hd hs]
  unfold kidsF kidsT
  rw[hk];rfl
end T

