import Derived.Test.YtohdbmmapbaalaaAm22
namespace Go.Am
variable {P : Program} {N n0 : Nat} {σ : St} {Q : Exit → St → Prop}

def nextQ (P : Program) (ops : Array Oper) (Q : Exit → Act → World → Prop) (js : List Nat) : Exit → Act → World → Prop
  | .normal, a, w => wpOps P ops Q js a w
  | e, a, w => Q e a w

theorem Oper.wp_monoQ {o : Oper} {a : Act} {w : World} {K : Act → World → Prop} {Q Q' : Exit → Act → World → Prop} (hq : ∀ e a w, e ≠ .normal → Q e a w → Q' e a w) (hl : LetsOut Q → LetsOut Q')
    (hh : o.wp P a w K Q) : o.wp P a w K Q' := by
  unfold Oper.wp at *
  generalize (execOp a.eval o).run P w = r at *
  cases r with
  | ok n w' =>
    cases n <;> simp only [Oper.upon] at hh ⊢ <;>
      first
        | exact hh
        | exact Calls.mono hh (fun e w'' he => by
            cases e with
            | returned v => exact he
            | panicked c => exact hq _ _ _ (by simp) he
            | outgrown => exact hl he)
  | halt x w' => cases x <;> simp only [Oper.upon] at hh ⊢ <;> first | exact hh | exact hq _ _ _ (by simp) hh

theorem wpOps_app {ops : Array Oper} {Q : Exit → Act → World → Prop} {js : List Nat} : ∀ (is : List Nat) (a : Act) (w : World), wpOps P ops (nextQ P ops Q js) is a w → wpOps P ops Q (is ++ js) a w
  | [], a, w, h => h
  | i :: is, a, w, h => by
    rw [List.cons_append, wpOps_cons]
    rw [wpOps_cons] at h
    have hl : LetsOut (nextQ P ops Q js) → LetsOut Q := fun h => h
    unfold wpOp at h ⊢
    cases ho : ops[i]? with
    | none => simp only [ho] at h ⊢; exact wpOps_app is a w h
    | some o =>
      simp only [ho] at h ⊢
      by_cases hw : Region.wanted o (yielded ops a.tmps) = true
      · rw [if_pos hw] at h ⊢
        rcases h with h | ⟨h1, h2⟩
        · left
          exact Oper.wp_monoQ (fun e a w he hq => by cases e <;> first | exact absurd rfl he | exact hq) hl (Oper.wp_mono (fun a w => wpOps_app is a w) h)
        · exact .inr ⟨h1, hl h2⟩
      · rw [if_neg hw] at h ⊢
        exact wpOps_app is _ w h

theorem opsL_soundP {N : Nat} {os : List Ob} {γ0 : Cx} {ops : Array Oper} (hd : ∀ o ∈ ops.toList, ∀ d, o.dst = some d → d < N) {K : St → Prop} {Q : Exit → Act → World → Prop}
    (hQ : ∀ σ' a' w', K σ' → Okay N os γ0 σ' a' w' → Q .normal a' w') : ∀ (l : List Oper) (i : Nat) (σ : St) (a : Act) (w : World), (∀ k, k < l.length → ops[i + k]? = l[k]?) → opsL P ops l K σ → Okay N os γ0 σ a w →
      wpOps P ops Q (List.range' i l.length) a w
  | [], i, σ, a, w, _, h, hok => by simpa [wpOps] using hQ _ _ _ h hok
  | o :: r, i, σ, a, w, hl, h, hok => by
    have hi : ops[i]? = some o := by simpa using hl 0 (by simp)
    have hr : ∀ k, k < r.length → ops[i + 1 + k]? = r[k]? := fun k hk => by
      have := hl (k + 1) (by simpa using hk)
      rw [show i + 1 + k = i + (k + 1) by omega, this]; simp
    have hmem : o ∈ ops.toList := List.mem_of_getElem? (by simpa using hi)
    rw [List.length_cons, List.range'_succ, wpOps_cons]
    unfold wpOp
    simp only [hi]
    unfold opsL at h
    cases hg : o.guard with
    | none =>
      simp only [hg] at h
      have hw : Region.wanted o (yielded ops a.tmps) = true := by simp [Region.wanted, hg]
      rw [if_pos hw]
      left
      exact opG_sound h hok (hd o hmem) (fun σ' a' w' hK hok' => opsL_soundP hd hQ r (i + 1) σ' a' w' hr hK hok')
    | some jw =>
      obtain ⟨j, want⟩ := jw
      simp only [hg] at h
      cases hdj : (ops[j]?).bind (·.dst) with
      | none => simp [hdj] at h
      | some d =>
        simp only [hdj] at h
        split at h
        · rename_i b he
          obtain ⟨hdf, hsz, γ, rfl, ha, hs, hf⟩ := hok
          have hslot := hs.slots d
          rw [he, ha] at hslot
          have hv := hslot.lit_inv
          have hy : yielded ops a.tmps j = some b := by
            unfold yielded
            rw [hdj]
            have : a.tmps[d]? = some (.bool b) := by
              rw [Array.getD_eq_getD_getElem?] at hv
              cases hx : a.tmps[d]? with
              | none => rw [hx] at hv; simp [Go.undef] at hv
              | some y => rw [hx] at hv; simp at hv; rw [hv]
            simp [this]
          by_cases hbw : b = want
          · have hw : Region.wanted o (yielded ops a.tmps) = true := by simp [Region.wanted, hg, hy, hbw]
            rw [if_pos hw]
            left
            exact opG_sound (h.1 hbw) ⟨hdf, hsz, γ, rfl, ha, hs, hf⟩ (hd o hmem) (fun σ' a' w' hK hok' => opsL_soundP hd hQ r (i + 1) σ' a' w' hr hK hok')
          · have hw : Region.wanted o (yielded ops a.tmps) = false := by simp [Region.wanted, hg, hy, hbw]
            rw [if_neg (by rw [hw]; simp)]
            refine opsL_soundP hd hQ r (i + 1) _ _ _ hr (h.2 hbw) ⟨by rw [put_defers]; exact hdf, by rw [put_size]; exact hsz, { γ with tmps := (a.put o.dst Go.undef).tmps }, rfl, rfl, put_sim hs ha (fun d h => by rw [hsz]; exact hd o hmem d h) (.lit _), ?_⟩
            rw [objs_put]; exact hf.put _
        · rename_i vs he
          obtain ⟨hdf, hsz, γ, rfl, ha, hs, hf⟩ := hok
          have hslot := hs.slots d
          rw [he, ha] at hslot
          have hv := hslot.lit_inv
          have hy : yielded ops a.tmps j = none := by
            unfold yielded
            rw [hdj]
            rw [Array.getD_eq_getD_getElem?] at hv
            cases hx : a.tmps[d]? with
            | none => simp [hx]
            | some y => rw [hx] at hv; simp at hv; subst hv; simp [hx]
          have hw : Region.wanted o (yielded ops a.tmps) = false := by simp [Region.wanted, hg, hy]
          rw [if_neg (by rw [hw]; simp)]
          refine opsL_soundP hd hQ r (i + 1) _ _ _ hr h.2 ⟨by rw [put_defers]; exact hdf, by rw [put_size]; exact hsz, { γ with tmps := (a.put o.dst Go.undef).tmps }, rfl, rfl, put_sim hs ha (fun d h => by rw [hsz]; exact hd o hmem d h) (.lit _), ?_⟩
          rw [objs_put]; exact hf.put _
        · exact h.elim

theorem opsL_soundT {os : List Ob} {γ0 : Cx} {ops : Array Oper} (hd : ∀ o ∈ ops.toList, ∀ d, o.dst = some d → d < N) {K K1 : St → Prop} {Q : Exit → Act → World → Prop} (hn : os.length = n0)
    (hQ : ∀ σ' a' w', K σ' → Okay N os γ0 σ' a' w' → Q .normal a' w') (n : Nat) (hK : ∀ s, K1 s → ∃ s1, Turns n0 s s1 ∧ opsL P ops (ops.toList.drop n) K s1) (σ : St) (a : Act) (w : World)
    (h : opsL P ops (ops.toList.take n) K1 σ) (hok : Okay N os γ0 σ a w) : wpOps P ops Q (List.range ops.size) a w := by
  have e : List.range ops.size = List.range' 0 (ops.toList.take n).length ++ List.range' (ops.toList.take n).length (ops.toList.drop n).length := by
    rw [List.range_eq_range']
    have := List.range'_append (s := 0) (m := (ops.toList.take n).length) (n := (ops.toList.drop n).length) (step := 1)
    simp only [Nat.zero_add, Nat.one_mul] at this
    rw [this]
    congr 1
    rw [← List.length_append, List.take_append_drop]; simp
  rw [e]
  refine wpOps_app _ a w ?_
  refine opsL_soundP hd (K := K1) (fun σ' a' w' hk hok' => ?_) (ops.toList.take n) 0 σ a w (fun k hk => ?_) h hok
  · obtain ⟨s1, ht, ho⟩ := hK σ' hk
    obtain ⟨h1, h2, γ, rfl, h3, h4, h5⟩ := hok'
    obtain ⟨γ', e1, e2, e3, e4⟩ := ht os γ0 γ hn h4 h5
    refine opsL_soundP hd hQ (ops.toList.drop n) _ s1 a' γ.w (fun k hk => ?_) ho ⟨h1, h2, γ', e1, e2.trans h3, e3, e4⟩
    rw [List.getElem?_drop]
    simp only [List.length_drop, Array.length_toList] at hk
    rw [List.length_take, Array.length_toList, Nat.min_eq_left (by omega)]
    simp
  · simp only [List.length_take, Array.length_toList] at hk
    rw [List.getElem?_take_of_lt (by omega)]
    simp

/-- a region, with a change of view behind its first n operations -/
theorem W_region_t (n : Nat) {id : Nat} {ops : Array Oper} {y : Code} (hd : dstOK N ops = true) (h : ∀ K K1 : St → Prop, (∀ s, W P N n0 y Q s → K s) → (∀ s s1, Turns n0 s s1 → opsL P ops (ops.toList.drop n) K s1 → K1 s) → opsL P ops (ops.toList.take n) K1 σ) : W P N n0 (.seq (.region id ops false) y) Q σ := by
  refine W_seq ?_
  intro os γ0 a w hn hok
  refine wp_region ?_
  exact opsL_soundT (dstOK_spec hd) hn (K := W P N n0 y Q) (K1 := fun s => ∃ s1, Turns n0 s s1 ∧ opsL P ops (ops.toList.drop n) (W P N n0 y Q) s1) (fun σ' a' w' hK hok' => ⟨σ', hK, hok'⟩) n (fun s h => h) σ a w (h _ _ (fun _ h => h) (fun s s1 h1 h2 => ⟨s1, h1, h2⟩)) hok

end Go.Am
