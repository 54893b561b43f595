import Derived.Test.YtncfieaimmpapaaCS4
set_option linter.unusedVariables false
set_option linter.unusedSimpArgs false
open Go Go.Am
namespace T

def kpt (keep : List Bool) (r : Int) : Bool := keep.getD r.toNat false
def keepO (keep : List Bool) (o : Opt) : Opt := ⟨o.wk, o.day, o.st, o.len, o.room, o.ch.filter fun c => kpt keep c.1⟩
def restrictV (m : Mdl) (keep : List Bool) : Mdl :=
  ⟨m.cls.map fun l => l.map (keepO keep), m.prs.filter fun p => kpt keep p.rule, m.cts.filter fun c => kpt keep c.rule, m.rules⟩
def mdl0 : Mdl := ⟨[], [], [], 0⟩
def restrictT (m : Mdl) (keep : List Bool) : Mdl × Int :=
  if validV m ≠ 0 then (mdl0, validV m) else if (keep.length : Int) ≠ m.rules then (mdl0, 3) else (restrictV m keep, 0)

/-! ### a restricted model costs the same under the rules that are kept -/
/-- costs by rule, with those of the rules that are left out gone -/
def Cut (keep : List Bool) (a b : List Int) : Prop := b.length = a.length ∧ ∀ i : Nat, b.getD i 0 = if kpt keep i = true then a.getD i 0 else 0

theorem Cut.add {keep : List Bool} {a b : List Int} (h : Cut keep a b) {r c : Int} (hr : 0 ≤ r) : Cut keep (addAt a r c) (if kpt keep r = true then addAt b r c else b) := by
  have hrr : ((r.toNat : Nat) : Int) = r := Int.toNat_of_nonneg hr
  refine ⟨by split <;> simp only [addAt, List.length_set] <;> exact h.1, fun i => ?_⟩
  have hi := h.2 i
  have hr' := h.2 r.toNat
  rw [hrr] at hr'
  by_cases hk : kpt keep r = true
  · rw [if_pos hk]
    rw [if_pos hk] at hr'
    rw [addAt, addAt, getD_setI, getD_setI, hr', h.1]
    by_cases hi2 : r.toNat = i ∧ i < a.length
    · rw [if_pos hi2, if_pos hi2, if_pos]
      rw [← hi2.1, hrr]; exact hk
    · rw [if_neg hi2, if_neg hi2]; exact hi
  · rw [if_neg hk, addAt, getD_setI]
    by_cases hi2 : r.toNat = i ∧ i < a.length
    · rw [if_pos hi2]
      rw [← hi2.1, hrr, if_neg hk] at hi
      rw [← hi2.1, hrr, if_neg hk]; exact hi
    · rw [if_neg hi2]; exact hi

theorem chargesL_cut {keep : List Bool} : ∀ (l : List (Int × Int)) {a b : List Int}, Cut keep a b → (∀ c ∈ l, 0 ≤ c.1) → Cut keep (chargesL l a) (chargesL (l.filter fun c => kpt keep c.1) b)
  | [], _, _, h, _ => h
  | c :: r, a, b, h, hc => by
    have h1 := h.add (c := c.2) (hc c (by simp))
    rw [List.filter_cons]
    by_cases hk : kpt keep c.1 = true
    · rw [if_pos hk] at h1 ⊢
      exact chargesL_cut r h1 fun x hx => hc x (by simp [hx])
    · rw [if_neg hk] at h1 ⊢
      exact chargesL_cut r h1 fun x hx => hc x (by simp [hx])
theorem keepO_def (keep : List Bool) : keepO keep default = default := rfl
theorem getD_mapD {α β : Type} (f : α → β) (l : List α) (i : Nat) (a : α) (b : β) (h : f a = b) : (l.map f).getD i b = f (l.getD i a) := by
  rw [List.getD_eq_getElem?_getD, List.getD_eq_getElem?_getD, List.getElem?_map]
  cases l[i]? with
  | none => exact h.symm
  | some x => rfl
theorem rv_cls (m : Mdl) (keep : List Bool) (i : Nat) : (restrictV m keep).cls.getD i default = (m.cls.getD i default).map (keepO keep) := getD_mapD _ _ _ _ _ rfl
theorem rv_opt (m : Mdl) (keep : List Bool) (i k : Nat) : ((restrictV m keep).cls.getD i default).getD k default = keepO keep ((m.cls.getD i default).getD k default) := by
  rw [rv_cls]; exact getD_mapD _ _ _ _ _ (keepO_def keep)
theorem ch_nonneg {m : Mdl} (hm : VM m) (i : Nat) (k : Nat) : ∀ c ∈ ((m.cls.getD i default).getD k default).ch, 0 ≤ c.1 := by
  intro c hc
  rcases Nat.lt_or_ge i m.cls.length with hi | hi
  · have hl := getD_mem (d := (default : List Opt)) hi
    generalize m.cls.getD i default = l at *
    rcases Nat.lt_or_ge k l.length with ho | ho
    · have := (chL_mem (hm.chs l hl _ (getD_mem ho)) c hc).1
      rw [ruleB, decide_eq_true_eq] at this; exact this.1
    · rw [show l.getD k default = default by rw [List.getD_eq_getElem?_getD, List.getElem?_eq_none ho]; rfl] at hc
      exact absurd hc (by rw [opt_default_ch]; simp)
  · rw [show m.cls.getD i default = [] by rw [List.getD_eq_getElem?_getD, List.getElem?_eq_none hi]; rfl] at hc
    exact absurd hc (by rw [List.getD_nil, opt_default_ch]; simp)
theorem planC_cut {m : Mdl} (hm : VM m) {keep : List Bool} : ∀ (plan : List Int) (i : Nat) {a b : List Int}, Cut keep a b → Cut keep (planC m i plan a) (planC (restrictV m keep) i plan b)
  | [], _, _, _, h => h
  | o :: r, i, a, b, h => by
    rw [planC, planC]
    refine planC_cut hm r (i + 1) ?_
    split
    · exact h
    · rw [rv_opt]
      exact chargesL_cut _ h (ch_nonneg hm i o.toNat)
theorem entry_cut (m : Mdl) (keep : List Bool) (p : Pr) (x y : Int) : entryV (restrictV m keep) p x y = entryV m p x y := by
  unfold entryV
  rw [rv_cls, List.length_map]
theorem pairC_cut {m : Mdl} {keep : List Bool} {plan : List Int} : ∀ (l : List Pr) {a b : List Int}, (∀ p ∈ l, 0 ≤ p.rule) → Cut keep a b → Cut keep (pairC m plan l a) (pairC (restrictV m keep) plan (l.filter fun p => kpt keep p.rule) b)
  | [], _, _, _, h => h
  | p :: r, a, b, hp, h => by
    have hr : ∀ q ∈ r, 0 ≤ q.rule := fun q hq => hp q (by simp [hq])
    rw [List.filter_cons, pairC]
    by_cases hc : 0 ≤ plan.getD p.fst.toNat 0 ∧ 0 ≤ plan.getD p.snd.toNat 0
    · rw [if_pos hc]
      have h1 := h.add (c := entryV m p (plan.getD p.fst.toNat 0) (plan.getD p.snd.toNat 0)) (hp p (by simp))
      by_cases hk : kpt keep p.rule = true
      · rw [if_pos hk] at h1 ⊢
        rw [pairC, if_pos hc, entry_cut]
        exact pairC_cut r hr h1
      · rw [if_neg hk] at h1 ⊢
        exact pairC_cut r hr h1
    · rw [if_neg hc]
      split
      · rw [pairC, if_neg hc]; exact pairC_cut r hr h
      · exact pairC_cut r hr h
theorem countC_cut {keep : List Bool} {plan : List Int} : ∀ (l : List Ct) {a b : List Int}, (∀ c ∈ l, 0 ≤ c.rule) → Cut keep a b → Cut keep (countC plan l a) (countC plan (l.filter fun c => kpt keep c.rule) b)
  | [], _, _, _, h => h
  | c :: r, a, b, hp, h => by
    have hr : ∀ q ∈ r, 0 ≤ q.rule := fun q hq => hp q (by simp [hq])
    have h1 := h.add (c := excV c.most c.pen (loadS plan c.loads 0)) (hp c (by simp))
    rw [List.filter_cons, countC]
    by_cases hk : kpt keep c.rule = true
    · rw [if_pos hk] at h1 ⊢
      rw [countC]
      exact countC_cut r hr h1
    · rw [if_neg hk] at h1 ⊢
      exact countC_cut r hr h1
theorem rulesV_cut {m : Mdl} (hm : VM m) (keep : List Bool) (plan : List Int) : Cut keep (rulesV m plan) (rulesV (restrictV m keep) plan) := by
  have h0 : Cut keep (List.replicate m.rules.toNat 0) (List.replicate m.rules.toNat 0) := ⟨rfl, fun i => by
    have : (List.replicate m.rules.toNat (0 : Int)).getD i 0 = 0 := by
      rw [List.getD_eq_getElem?_getD, List.getElem?_replicate]; split <;> rfl
    rw [this]; split <;> rfl⟩
  exact countC_cut _ (fun c hc => (ctB_iff (hm.ct c hc)).1.1) (pairC_cut _ (fun p hp => (pairB_iff (prsL_mem hm.pr p hp)).1.1) (planC_cut hm _ _ h0))

/-! ### a restricted model is valid -/
theorem chL_weak {R : Int} {q q' : Option (Int × Int)} (h : ∀ y, q' = some y → ∃ x, q = some x ∧ y.1 ≤ x.1) : ∀ {l : List (Int × Int)}, chL R q l = true → chL R q' l = true
  | [], _ => by cases q' <;> rfl
  | c :: r, hl => by
    rw [chL.eq_def] at hl ⊢
    simp only [Bool.and_eq_true] at hl ⊢
    refine ⟨⟨hl.1.1, ?_⟩, hl.2⟩
    cases q' with
    | none => rfl
    | some y =>
      obtain ⟨x, rfl, hx⟩ := h y rfl
      have := hl.1.2
      simp only [decide_eq_true_eq] at this ⊢; omega
theorem chL_filter {R : Int} (p : Int × Int → Bool) : ∀ {l : List (Int × Int)} {q : Option (Int × Int)}, chL R q l = true → chL R q (l.filter p) = true
  | [], q, h => h
  | c :: r, q, h => by
    have h0 := h
    rw [chL.eq_def] at h
    simp only [Bool.and_eq_true] at h
    rw [List.filter_cons]
    split
    · rw [chL.eq_def]
      simp only [Bool.and_eq_true]
      exact ⟨h.1, chL_filter p h.2⟩
    · refine chL_weak (q := some c) (fun y hy => ⟨c, rfl, ?_⟩) (chL_filter p h.2)
      subst hy
      have := h.1.2
      simp only [decide_eq_true_eq] at this; omega
theorem ordV_trans {a b c : Pr} (h : ordV a b < 0) (k : ordV b c < 0) : ordV a c < 0 := by
  rw [ordV_lt] at *; omega
theorem prsL_weak {m : Mdl} {q q' : Option Pr} (h : ∀ y, q' = some y → ∃ x, q = some x ∧ (∀ c, ordV x c < 0 → ordV y c < 0)) : ∀ {l : List Pr}, prsL m q l = true → prsL m q' l = true
  | [], _ => by cases q' <;> rfl
  | c :: r, hl => by
    rw [prsL.eq_def] at hl ⊢
    simp only [Bool.and_eq_true] at hl ⊢
    refine ⟨⟨hl.1.1, ?_⟩, hl.2⟩
    cases q' with
    | none => rfl
    | some y =>
      obtain ⟨x, rfl, hx⟩ := h y rfl
      have := hl.1.2
      simp only [decide_eq_true_eq] at this ⊢; exact hx c this
theorem prsL_filter {m : Mdl} (p : Pr → Bool) : ∀ {l : List Pr} {q : Option Pr}, prsL m q l = true → prsL m q (l.filter p) = true
  | [], q, h => h
  | c :: r, q, h => by
    rw [prsL.eq_def] at h
    simp only [Bool.and_eq_true] at h
    rw [List.filter_cons]
    split
    · rw [prsL.eq_def]
      simp only [Bool.and_eq_true]
      exact ⟨h.1, prsL_filter p h.2⟩
    · refine prsL_weak (q := some c) (fun y hy => ⟨c, rfl, fun d hd => ?_⟩) (prsL_filter p h.2)
      subst hy
      have := h.1.2
      simp only [decide_eq_true_eq] at this
      exact ordV_trans this hd
theorem rv_len (m : Mdl) (keep : List Bool) (i : Nat) : ((restrictV m keep).cls.getD i default).length = (m.cls.getD i default).length := by rw [rv_cls, List.length_map]
theorem rv_n (m : Mdl) (keep : List Bool) : (restrictV m keep).cls.length = m.cls.length := by unfold restrictV; simp
theorem rv_optB (m : Mdl) (keep : List Bool) (c o : Int) : optB (restrictV m keep) c o = optB m c o := by
  unfold optB; rw [rv_n, rv_len]
theorem rv_pairB (m : Mdl) (keep : List Bool) (p : Pr) : pairB (restrictV m keep) p = pairB m p := by
  unfold pairB; rw [rv_n, rv_len, rv_len]; rfl
theorem rv_prsL (m : Mdl) (keep : List Bool) : ∀ (l : List Pr) (q : Option Pr), prsL (restrictV m keep) q l = prsL m q l
  | [], _ => rfl
  | x :: r, q => by rw [prsL.eq_def, prsL.eq_def]; simp only [rv_pairB, rv_prsL m keep r]
theorem rv_ldL (m : Mdl) (keep : List Bool) : ∀ (l : List Ld) (q : Option Ld), ldL (restrictV m keep) q l = ldL m q l
  | [], _ => rfl
  | x :: r, q => by rw [ldL.eq_def, ldL.eq_def]; simp only [rv_optB, rv_ldL m keep r]
theorem rv_ctB (m : Mdl) (keep : List Bool) (c : Ct) : ctB (restrictV m keep) c = ctB m c := by
  unfold ctB; rw [rv_ldL]; rfl
theorem restrictV_vm {m : Mdl} (hm : VM m) (keep : List Bool) : VM (restrictV m keep) := by
  refine ⟨by rw [rv_n]; exact hm.cls, fun l hl => ?_, ?_, ?_, hm.rul, fun l hl o ho => ?_, ?_, fun c hc => ?_⟩
  · simp only [restrictV, List.mem_map] at hl
    obtain ⟨l', h', rfl⟩ := hl
    simpa using hm.opt l' h'
  · have := List.length_filter_le (fun p : Pr => kpt keep p.rule) m.prs
    have := hm.prs
    simp only [restrictV]; omega
  · have := List.length_filter_le (fun p : Ct => kpt keep p.rule) m.cts
    have := hm.cts
    simp only [restrictV]; omega
  · simp only [restrictV, List.mem_map] at hl
    obtain ⟨l', h', rfl⟩ := hl
    simp only [List.mem_map] at ho
    obtain ⟨o', ho', rfl⟩ := ho
    exact chL_filter _ (hm.chs l' h' o' ho')
  · rw [rv_prsL]; exact prsL_filter _ hm.pr
  · rw [rv_ctB]
    exact hm.ct c (List.mem_filter.1 hc).1
theorem restrictV_pm {m : Mdl} {plan : List Int} (h : PM m plan) (keep : List Bool) : PM (restrictV m keep) plan :=
  ⟨by rw [rv_n]; exact h.len, fun j hj => by rw [rv_optB]; exact h.get j hj⟩
theorem Cut.total {m : Mdl} (hm : VM m) (keep : List Bool) (plan : List Int) : totalL (rulesV (restrictV m keep) plan) 0 ≤ totalL (rulesV m plan) 0 := by
  have h := rulesV_cut hm keep plan
  have h1 := rulesV_ok hm plan
  have h2 := rulesV_ok (restrictV_vm hm keep) plan
  rw [totalL_sum h1.2 (by unfold In41; decide), totalL_sum h2.2 (by unfold In41; decide)]
  have := sumL_le (a := rulesV (restrictV m keep) plan) (b := rulesV m plan) h.1 fun i => by
    rw [h.2 i]
    have := h1.get i
    unfold In41 at this
    split <;> omega
  omega
end T

