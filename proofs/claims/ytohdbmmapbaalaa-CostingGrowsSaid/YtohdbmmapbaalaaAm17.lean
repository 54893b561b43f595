import Derived.Test.YtohdbmmapbaalaaAm16
namespace Go.Am
variable {P : Program} {N n0 : Nat} {σ : St}

def stepAt (P : Program) (ops : Array Oper) (qs : List Nat) (i : Nat) (K : St → Prop) (σ : St) : Prop :=
  match ops[i]? with
  | none => K σ
  | some o => stepD P ops (qs.contains i) o K σ

/-- every order -/
def anyW (P : Program) (ops : Array Oper) (qs : List Nat) (K : St → Prop) : Nat → Array Bool → St → Prop
  | 0, listed, σ => Region.ready .any ops listed = [] ∧ K σ
  | n + 1, listed, σ => (Region.ready .any ops listed = [] → K σ) ∧ ∀ i ∈ Region.ready .any ops listed, stepAt P ops qs i (anyW P ops qs K n (listed.setIfInBounds i true)) σ

theorem stepD_mono {ops : Array Oper} {q : Bool} {o : Oper} {σ : St} {K K2 : St → Prop} (hk : ∀ s, K s → K2 s) (h : stepD P ops q o K σ) : stepD P ops q o K2 σ := by
  obtain ⟨v, os, _, h2, run⟩ := stepD_local h
  exact run σ.env K2 (fun _ _ => rfl) (hk _ h2)

theorem stepD_some {ops : Array Oper} {q : Bool} {o : Oper} {σ : St} {K : St → Prop} (h : stepD P ops q o K σ) : ∃ s, K s := by
  obtain ⟨v, os, _, h2, run⟩ := stepD_local h
  exact ⟨_, h2⟩

theorem stepAt_mono {ops : Array Oper} {qs : List Nat} {i : Nat} {σ : St} {K K2 : St → Prop} (hk : ∀ s, K s → K2 s) (h : stepAt P ops qs i K σ) : stepAt P ops qs i K2 σ := by
  unfold stepAt at h ⊢
  split at h
  · exact hk _ h
  · exact stepD_mono hk h

theorem stepAt_some {ops : Array Oper} {qs : List Nat} {i : Nat} {σ : St} {K : St → Prop} (h : stepAt P ops qs i K σ) : ∃ s, K s := by
  unfold stepAt at h
  split at h
  · exact ⟨_, h⟩
  · exact stepD_some h

theorem anyW_sound {os : List Ob} {γ0 : Cx} {ops : Array Oper} {qs : List Nat} (hd : ∀ o ∈ ops.toList, ∀ d, o.dst = some d → d < N) {K : St → Prop} {Q : Exit → Act → World → Prop}
    (hQ : ∀ σ' a' w', K σ' → Okay N os γ0 σ' a' w' → Q .normal a' w') : ∀ (n : Nat) (listed : Array Bool) (σ : St) (a : Act) (w : World), anyW P ops qs K n listed σ → Okay N os γ0 σ a w → wpAny P .any ops Q n listed a w
  | 0, listed, σ, a, w, h, hok => ⟨h.1, hQ _ _ _ h.2 hok⟩
  | n + 1, listed, σ, a, w, h, hok => by
    refine ⟨fun hr => hQ _ _ _ (h.1 hr) hok, fun i hi => ?_⟩
    have := h.2 i hi
    unfold stepAt at this
    split at this
    · rename_i hi'
      unfold wpOp
      simp only [hi']
      exact anyW_sound hd hQ n _ _ _ _ this hok
    · rename_i o hi'
      exact stepD_sound hd hi' this hok fun σ' a' w' hK hok' => anyW_sound hd hQ n _ _ _ _ hK hok'

theorem W_region_any {id : Nat} {ops : Array Oper} {Q : Exit → St → Prop} (qs : List Nat) (hm : P.follows .mixedOrders = true) (hd : dstOK N ops = true)
    (h : anyW P ops qs (Q .normal) ops.size (Array.replicate ops.size false) σ) : W P N n0 (.region id ops true) Q σ := by
  intro os γ0 a w _ hok
  refine wp_region_any hm ?_
  exact anyW_sound (dstOK_spec hd) (K := Q .normal) (fun σ' a' w' hK hok' => ⟨σ', hK, hok'⟩) _ _ _ _ _ h hok.drawn

theorem any_take {ops : Array Oper} {qs : List Nat} {K : St → Prop} {i : Nat} {o : Oper} (hi : ops[i]? = some o) (D : List Nat) (hiD : i ∈ D)
    (hD : ∀ j ∈ D, j = i ∨ ∃ oj, ops[j]? = some oj ∧ ∃ e ∈ oj.after, Region.binds .any e = true ∧ e.on ∈ D) : ∀ (fuel : Nat) (listed : Array Bool) (σ : St), (∀ j ∈ D, listed.getD j true = false) →
      i ∈ Region.ready .any ops listed →
      (∀ j oj, ops[j]? = some oj → listed.getD j true = false → j ∉ D → o.apart ops oj = true ∧ compat (clsQ (qs.contains i) o) (clsQ (qs.contains j) oj) = true) →
      stepAt P ops qs i (anyW P ops qs K fuel (listed.setIfInBounds i true)) σ → anyW P ops qs K (fuel + 1) listed σ := by
  intro fuel
  induction fuel with
  | zero =>
    intro listed σ hu hr hap h
    refine ⟨fun e => by rw [e] at hr; simp at hr, fun k hk => ?_⟩
    by_cases hki : k = i
    · subst hki; exact h
    · obtain ⟨s, hs⟩ := stepAt_some h
      have := ready_mono hk hki
      rw [hs.1] at this
      simp at this
  | succ m ih =>
    intro listed σ hu hr hap h
    refine ⟨fun e => by rw [e] at hr; simp at hr, fun k hk => ?_⟩
    by_cases hki : k = i
    · subst hki; exact h
    · have hkr := mem_ready.1 hk
      obtain ⟨hkl, ok, hok, hke⟩ := hkr
      have hkD : k ∉ D := by
        intro hkD
        rcases hD k hkD with e | ⟨oj, hoj, e, he, hb, hon⟩
        · exact hki e
        · rw [hok] at hoj
          simp only [Option.some.injEq] at hoj
          subst hoj
          have h1 := hke e he hb
          have h2 := hu e.on hon
          rw [Array.getD_eq_getD_getElem?] at h1 h2
          cases hx : listed[e.on]? with
          | none => rw [hx] at h1; simp at h1
          | some b => rw [hx] at h1 h2; simp at h1 h2; rw [h1] at h2; simp at h2
      obtain ⟨ha, hc⟩ := hap k ok hok hkl hkD
      have h1 : stepAt P ops qs i (stepAt P ops qs k (anyW P ops qs K m ((listed.setIfInBounds i true).setIfInBounds k true))) σ :=
        stepAt_mono (fun s hs => hs.2 k (ready_mono hk hki)) h
      have h2 : stepAt P ops qs k (stepAt P ops qs i (anyW P ops qs K m ((listed.setIfInBounds i true).setIfInBounds k true))) σ := by
        unfold stepAt at h1 ⊢
        simp only [hi, hok] at h1 ⊢
        exact swap_steps ha hc h1
      refine stepAt_mono (fun s hs => ?_) h2
      refine ih (listed.setIfInBounds k true) s (fun j hj => ?_) (ready_mono hr (Ne.symm hki)) (fun j oj hoj hl hjD => ?_) ?_
      · have hne : k ≠ j := fun e => hkD (by rw [e]; exact hj)
        rw [getD_set_ne _ hne]; exact hu j hj
      · refine hap j oj hoj ?_ hjD
        by_cases hjk : k = j
        · subst hjk; exact hkl
        · rwa [getD_set_ne _ hjk] at hl
      · rw [Array.setIfInBounds_comm _ _ (Ne.symm hki)] at hs
        exact hs

/-- what comes behind an operation in every order -/
def depsOf (ops : Array Oper) (i : Nat) : List Nat :=
  (List.range ops.size).foldl (fun D j => if j == i || (match ops[j]? with | some oj => oj.after.any (fun e => Region.binds .any e && D.contains e.on) | none => false) then D ++ [j] else D) []

def takeOK (ops : Array Oper) (qs : List Nat) (listed : Array Bool) (i : Nat) (D : List Nat) : Bool :=
  match ops[i]? with
  | none => false
  | some o =>
    D.contains i && D.all (fun j => j == i || match ops[j]? with | some oj => oj.after.any (fun e => Region.binds .any e && D.contains e.on) | none => false) &&
    D.all (fun j => !listed.getD j true) && o.after.all (fun e => !Region.binds .any e || listed.getD e.on false) &&
    (List.range ops.size).all fun j => D.contains j || listed.getD j true || match ops[j]? with | some oj => o.apart ops oj && compat (clsQ (qs.contains i) o) (clsQ (qs.contains j) oj) | none => true

theorem take_ok {ops : Array Oper} {qs : List Nat} {K : St → Prop} {i : Nat} {D : List Nat} {fuel : Nat} {listed : Array Bool} (h : takeOK ops qs listed i D = true)
    (hs : stepAt P ops qs i (anyW P ops qs K fuel (listed.setIfInBounds i true)) σ) : anyW P ops qs K (fuel + 1) listed σ := by
  unfold takeOK at h
  cases hi : ops[i]? with
  | none => simp [hi] at h
  | some o =>
    simp only [hi, Bool.and_eq_true, List.all_eq_true, List.contains_iff_mem, Bool.or_eq_true, beq_iff_eq, Bool.not_eq_true'] at h
    obtain ⟨⟨⟨⟨h1, h2⟩, h3⟩, h4⟩, h5⟩ := h
    refine any_take hi D h1 (fun j hj => ?_) fuel listed σ h3 ?_ ?_ hs
    · rcases h2 j hj with h | h
      · exact .inl h
      · right
        split at h
        · rename_i oj hoj
          rw [Array.any_eq_true'] at h
          obtain ⟨e, he, hb⟩ := h
          simp only [Bool.and_eq_true, List.contains_iff_mem] at hb
          exact ⟨oj, hoj, e, he, hb.1, hb.2⟩
        · simp at h
    · rw [mem_ready]
      refine ⟨h3 i h1, o, hi, fun e he hb => ?_⟩
      rw [Array.all_eq_true'] at h4
      have := h4 e he
      simpa [hb] using this
    · intro j oj hoj hl hjD
      have hj : j < ops.size := (Array.getElem?_eq_some_iff.1 hoj).1
      rcases h5 j (List.mem_range.2 hj) with (h | h) | h
      · exact absurd h hjD
      · rw [hl] at h; simp at h
      · simpa [hoj] using h

/-- a plan of a region's orders -/
inductive PT where
  | nil
  | take (i : Nat) (t : PT)
  | both (i : Nat) (t : PT) (j : Nat) (u : PT)
  | three (i : Nat) (t : PT) (j : Nat) (u : PT) (k : Nat) (v : PT)

def PT.ok (ops : Array Oper) (qs : List Nat) : PT → Nat → Array Bool → Bool
  | .nil, n, listed => n == 0 && (Region.ready .any ops listed).isEmpty
  | .take _ _, 0, _ => false
  | .take i t, n + 1, listed => takeOK ops qs listed i (depsOf ops i) && t.ok ops qs n (listed.setIfInBounds i true)
  | .both _ _ _ _, 0, _ => false
  | .both i t j u, n + 1, listed => (Region.ready .any ops listed == [i, j]) && t.ok ops qs n (listed.setIfInBounds i true) && u.ok ops qs n (listed.setIfInBounds j true)
  | .three _ _ _ _ _ _, 0, _ => false
  | .three i t j u k v, n + 1, listed => (Region.ready .any ops listed == [i, j, k]) && t.ok ops qs n (listed.setIfInBounds i true) && u.ok ops qs n (listed.setIfInBounds j true) && v.ok ops qs n (listed.setIfInBounds k true)

def planW (P : Program) (ops : Array Oper) (qs : List Nat) : PT → (St → Prop) → St → Prop
  | .nil, K, σ => K σ
  | .take i t, K, σ => stepAt P ops qs i (planW P ops qs t K) σ
  | .both i t j u, K, σ => stepAt P ops qs i (planW P ops qs t K) σ ∧ stepAt P ops qs j (planW P ops qs u K) σ
  | .three i t j u k v, K, σ => stepAt P ops qs i (planW P ops qs t K) σ ∧ stepAt P ops qs j (planW P ops qs u K) σ ∧ stepAt P ops qs k (planW P ops qs v K) σ

theorem plan_any {ops : Array Oper} {qs : List Nat} {K : St → Prop} : ∀ (t : PT) (n : Nat) (listed : Array Bool) (σ : St), t.ok ops qs n listed = true → planW P ops qs t K σ → anyW P ops qs K n listed σ
  | .nil, n, listed, σ, h, hp => by
    simp only [PT.ok, Bool.and_eq_true, beq_iff_eq, List.isEmpty_iff] at h
    obtain ⟨rfl, h⟩ := h
    exact ⟨h, hp⟩
  | .take _ _, 0, _, _, h, _ => by simp [PT.ok] at h
  | .take i t, n + 1, listed, σ, h, hp => by
    simp only [PT.ok, Bool.and_eq_true] at h
    exact take_ok h.1 (stepAt_mono (fun s hs => plan_any t n _ s h.2 hs) hp)
  | .both _ _ _ _, 0, _, _, h, _ => by simp [PT.ok] at h
  | .both i t j u, n + 1, listed, σ, h, hp => by
    simp only [PT.ok, Bool.and_eq_true, beq_iff_eq] at h
    obtain ⟨⟨h1, h2⟩, h3⟩ := h
    refine ⟨fun e => by rw [h1] at e; simp at e, fun k hk => ?_⟩
    rw [h1] at hk
    simp only [List.mem_cons, List.not_mem_nil, or_false] at hk
    rcases hk with rfl | rfl
    · exact stepAt_mono (fun s hs => plan_any t n _ s h2 hs) hp.1
    · exact stepAt_mono (fun s hs => plan_any u n _ s h3 hs) hp.2
  | .three _ _ _ _ _ _, 0, _, _, h, _ => by simp [PT.ok] at h
  | .three i t j u k v, n + 1, listed, σ, h, hp => by
    simp only [PT.ok, Bool.and_eq_true, beq_iff_eq] at h
    obtain ⟨⟨⟨h1, h2⟩, h3⟩, h4⟩ := h
    refine ⟨fun e => by rw [h1] at e; simp at e, fun x hk => ?_⟩
    rw [h1] at hk
    simp only [List.mem_cons, List.not_mem_nil, or_false] at hk
    rcases hk with rfl | rfl | rfl
    · exact stepAt_mono (fun s hs => plan_any t n _ s h2 hs) hp.1
    · exact stepAt_mono (fun s hs => plan_any u n _ s h3 hs) hp.2.1
    · exact stepAt_mono (fun s hs => plan_any v n _ s h4 hs) hp.2.2

theorem W_draw {id : Nat} {ops : Array Oper} {Q : Exit → St → Prop} (qs : List Nat) (t : PT) (hm : P.follows .mixedOrders = true) (hd : dstOK N ops = true) (ht : t.ok ops qs ops.size (Array.replicate ops.size false) = true)
    (h : planW P ops qs t (Q .normal) σ) : W P N n0 (.region id ops true) Q σ :=
  W_region_any qs hm hd (plan_any t _ _ σ ht h)

theorem W_draw_k {id : Nat} {ops : Array Oper} {y : Code} {Q : Exit → St → Prop} (qs : List Nat) (t : PT) (hm : P.follows .mixedOrders = true) (hd : dstOK N ops = true) (ht : t.ok ops qs ops.size (Array.replicate ops.size false) = true)
    (h : ∀ K : St → Prop, (∀ s, W P N n0 y Q s → K s) → planW P ops qs t K σ) : W P N n0 (.seq (.region id ops true) y) Q σ :=
  W_seq (W_draw qs t hm hd ht (h _ (fun _ h => h)))

theorem planW_nil {ops : Array Oper} {qs : List Nat} {K : St → Prop} : planW P ops qs .nil K σ = K σ := rfl
theorem planW_take {ops : Array Oper} {qs : List Nat} {i : Nat} {t : PT} {K : St → Prop} : planW P ops qs (.take i t) K σ = stepAt P ops qs i (planW P ops qs t K) σ := rfl
theorem planW_three {ops : Array Oper} {qs : List Nat} {i j k : Nat} {t u v : PT} {K : St → Prop} : planW P ops qs (.three i t j u k v) K σ = (stepAt P ops qs i (planW P ops qs t K) σ ∧ stepAt P ops qs j (planW P ops qs u K) σ ∧ stepAt P ops qs k (planW P ops qs v K) σ) := rfl
theorem planW_both {ops : Array Oper} {qs : List Nat} {i j : Nat} {t u : PT} {K : St → Prop} : planW P ops qs (.both i t j u) K σ = (stepAt P ops qs i (planW P ops qs t K) σ ∧ stepAt P ops qs j (planW P ops qs u K) σ) := rfl
theorem opGm_false {o : Oper} {K : St → Prop} : opGm false P o σ K = opG P o σ K := rfl
theorem guardM_tt {q : Bool} {o : Oper} {K : St → Prop} : guardM q P o K true true σ = opGm q P o σ K := by simp [guardM]
theorem guardM_ff {q : Bool} {o : Oper} {K : St → Prop} : guardM q P o K false false σ = opGm q P o σ K := by simp [guardM]
theorem guardM_tf {q : Bool} {o : Oper} {K : St → Prop} : guardM q P o K true false σ = K (σ.put o.dst (.lit (.tuple #[]))) := by simp [guardM]
theorem guardM_ft {q : Bool} {o : Oper} {K : St → Prop} : guardM q P o K false true σ = K (σ.put o.dst (.lit (.tuple #[]))) := by simp [guardM]
theorem guardM_split {q : Bool} {o : Oper} {K : St → Prop} {b want : Bool} (h1 : b = true → guardM q P o K true want σ) (h2 : b = false → guardM q P o K false want σ) : guardM q P o K b want σ := by
  cases b
  · exact h2 rfl
  · exact h1 rfl

/-- the plan that follows a list -/
def seqP : List Nat → PT
  | [] => .nil
  | i :: r => .take i (seqP r)

end Go.Am
