import Derived.Test.YtohdbmmapbaalaaAm4
namespace Go.Am
variable {P : Program}

theorem run_isAgg {t : TypeId} (h : (ty P t).kind ≠ 99) (w : World) : (isAgg t).run P w = .ok (ty P t).isAgg w := by
  obtain ⟨i, d, hi, hd, _⟩ := ty_info h
  simp only [isAgg, Sem.run_bind, run_underlying hd, Result.andThen_ok]
  have : ty P t = ty P t := rfl
  cases d <;> simp [ty, hi, hd, Ty.isAgg]

theorem run_sizeOf {t : TypeId} (h : (ty P t).kind ≠ 99) (w : World) : (sizeOf t).run P w = .ok (ty P t).size w := by
  obtain ⟨i, d, hi, hd, hs, _⟩ := ty_info h
  simp [sizeOf, typeInfo, hi, hs]

theorem run_zero {t : TypeId} {z : List Value} (h : (ty P t).kind ≠ 99) (hz : (ty P t).zero = some z) (w : World) : ∃ v, (zeroValue t).run P w = .ok v w ∧ v.cells = z.toArray := by
  obtain ⟨i, d, hi, hd, _, _, h3⟩ := ty_info h
  rw [h3] at hz
  cases hv : i.zero with
  | none => simp [hv] at hz
  | some v =>
    simp [hv] at hz
    refine ⟨v, by simp [zeroValue, typeInfo, hi, hv], ?_⟩
    rw [← hz]

/-- where a pointer points, and what the row there holds -/
theorem ptr_row {σ : St} {γ : Cx} (h : Sim σ γ) {id r c : Nat} {cv : Value} {row : List AV} (hv : RelV σ.objs γ.w γ.Z γ.blk (.ptr id r c) cv) (hrow : rowOf σ id r = some row) :
    ∃ b base cap cur t o, cv = .pointer (some ⟨b, base + c, none⟩) ∧ γ.blk id = some (b, o, cap) ∧ γ.w.heap[b]? = some (.cells cur t (0, 0)) ∧ base + row.length ≤ cur.size ∧
      (∀ j v, row[j]? = some v → RelV σ.objs γ.w γ.Z γ.blk v (cur.getD (base + j) Go.undef)) ∧ Live σ.objs id ∧
      (∀ row' cur', row'.length = row.length → cur'.size = cur.size → (∀ j v, row'[j]? = some v → RelV σ.objs γ.w γ.Z γ.blk v (cur'.getD (base + j) Go.undef)) → (∀ k, (k < base ∨ base + row.length ≤ k) → cur'.getD k Go.undef = cur.getD k Go.undef) →
        ∃ ob ob', σ.objs[id]? = some ob ∧ ob ≠ .gone ∧ ob.like ob' ∧ (setRowOf σ id r row') = { σ with objs := σ.objs.set id ob' } ∧ ObNew σ.objs γ.w γ.Z γ.blk o cap cur' ob') := by
  unfold rowOf at hrow
  cases ho : σ.objs[id]? with
  | none => simp [ho] at hrow
  | some ob =>
    have hob := h.obs id ob ho
    cases ob with
    | gone => simp [ho] at hrow
    | var cells =>
      simp only [ho] at hrow
      split at hrow
      · rename_i hr0
        subst hr0
        simp at hrow
        subst hrow
        obtain ⟨b, cap, cur, t, h1, h2, h3, h4⟩ := hob
        have hcv : cv = .pointer (some ⟨b, c, none⟩) := by
          cases hv with
          | frz _ _ h => cases h
          | deadPtr _ _ _ _ h => rw [ho] at h; simp at h
          | ptrV _ _ b' cap' cells' h hb => rw [h1] at hb; simp at hb; simp [hb.1]
          | ptrA _ _ _ sz b' o' cap' rows h hb => rw [ho] at h; simp at h
        refine ⟨b, 0, cap, cur, t, 0, by simpa using hcv, h1, h2, by omega, fun j v hj => by simpa using h4 j v hj, ⟨_, ho, by simp⟩, ?_⟩
        intro row' cur' hl hs hrel _
        refine ⟨.var cells, .var row', rfl, by simp, by simp [Ob.like, hl], by simp [setRowOf, ho], rfl, by omega, fun c v hc => by simpa using hrel c v hc⟩
      · simp at hrow
    | arr sz rows =>
      simp only [ho] at hrow
      obtain ⟨hsz, hrl, hob⟩ := hob
      have hrlen : row.length = sz := hrl row (List.mem_of_getElem? hrow)
      have hrlt : r < rows.length := (List.getElem?_eq_some_iff.1 hrow).1
      rcases hob with ⟨_, he⟩ | ⟨b, o, cap, cur, t, h1, h2, h3, h4, h5, h6⟩
      · subst he; simp at hrow
      · have hcv : cv = .pointer (some ⟨b, o + (r * sz + c), none⟩) := by
          cases hv with
          | frz _ _ h => cases h
          | deadPtr _ _ _ _ h => rw [ho] at h; simp at h
          | ptrV _ _ b' cap' cells' h hb => rw [ho] at h; simp at h
          | ptrA _ _ _ sz' b' o' cap' rows' h hb => rw [ho] at h; simp at h; rw [h1] at hb; simp at hb; simp [hb.1, hb.2.1, h.1]
        have hmul : r * sz + sz ≤ cap * sz := by
          have : (r + 1) * sz ≤ cap * sz := Nat.mul_le_mul_right _ (by omega)
          rw [Nat.add_mul] at this; omega
        refine ⟨b, o + r * sz, cap, cur, t, o, by rw [hcv]; simp [Nat.add_assoc], h1, h2, by omega, ?_, ⟨_, ho, by simp⟩, ?_⟩
        · intro j v hj
          have := h6 r j v (by simp [cellAt, hrow, hj])
          simpa [Nat.add_assoc] using this
        · intro row' cur' hl hs hrel hout
          refine ⟨.arr sz rows, .arr sz (rows.set r row'), rfl, by simp, by simp [Ob.like], by simp [setRowOf, ho], hsz, ?_, by omega, by simp [h4], h5, ?_⟩
          · intro x hx
            rcases List.mem_or_eq_of_mem_set hx with hx | rfl
            · exact hrl x hx
            · omega
          · intro r' c' v hc
            by_cases hrr : r = r'
            · subst hrr
              simp only [cellAt, List.getElem?_set, if_true, hrlt] at hc
              simp at hc
              have := hrel c' v hc
              simpa [Nat.add_assoc] using this
            · simp only [cellAt, List.getElem?_set, if_neg hrr] at hc
              have hold := h6 r' c' v hc
              have hc' : c' < sz := by
                simp only [Option.bind_eq_some_iff] at hc
                obtain ⟨x, hx, hxc⟩ := hc
                have := hrl x (List.mem_of_getElem? hx)
                have := (List.getElem?_eq_some_iff.1 hxc).1
                omega
              rw [hout _ ?_]
              · exact hold
              · rcases Nat.lt_or_gt_of_ne hrr with hlt | hgt
                · right
                  have : (r + 1) * sz ≤ r' * sz := Nat.mul_le_mul_right _ (by omega)
                  rw [Nat.add_mul] at this; omega
                · left
                  have : (r' + 1) * sz ≤ r * sz := Nat.mul_le_mul_right _ (by omega)
                  rw [Nat.add_mul] at this; omega

theorem Addr.add_none (b o n : Nat) : (⟨b, o, none⟩ : Addr).add n = ⟨b, o + n, none⟩ := by
  unfold Go.Addr.add; split <;> simp_all

theorem cell_getD {w : World} {b j : Nat} {cur : Array Value} {t : TypeId} {fr : Nat × Nat} (h : w.heap[b]? = some (.cells cur t fr)) (hj : j < cur.size) : w.cell? ⟨b, j, none⟩ = some (cur.getD j Go.undef) := by
  simp [World.cell?, h, hj, Array.getD_eq_getD_getElem?]

theorem run_loadVar_cells {w : World} {t : TypeId} (hk : (ty P t).kind ≠ 99) (b o : Nat) (f : Nat → Value)
    (hc : ∀ j, j < (if (ty P t).isAgg then (ty P t).size else 1) → w.cell? ⟨b, o + j, none⟩ = some (f j)) :
    (loadVar t ⟨b, o, none⟩).run P w = .ok (if (ty P t).isAgg then .agg ((List.range (ty P t).size).map f).toArray else f 0) w := by
  simp only [loadVar, Sem.run_bind, run_isAgg hk, Result.andThen_ok]
  by_cases ha : (ty P t).isAgg = true
  · simp only [ha, if_true, Sem.run_bind, run_sizeOf hk, Result.andThen_ok]
    rw [run_loadCells w ⟨b, o, none⟩ _ f (fun j hj => by rw [Addr.add_none]; exact hc j (by simpa [ha] using hj))]
    rfl
  · have hc0 := hc 0 (by simp [ha])
    simp only [Nat.add_zero] at hc0
    simp [ha, hc0]

end Go.Am
