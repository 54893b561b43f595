import Derived.Test.YtohdbmmapbaalaaAm5
namespace Go.Am
variable {P : Program}

theorem setCells_length (cs : List AV) : ∀ (row : List AV) (c : Nat), (setCells row c cs).length = row.length := by
  induction cs with
  | nil => intro row c; rfl
  | cons v vs ih => intro row c; simp [setCells, ih]

theorem setCells_get (cs : List AV) : ∀ (row : List AV) (c : Nat), c + cs.length ≤ row.length → ∀ j, (setCells row c cs)[j]? = if c ≤ j ∧ j < c + cs.length then cs[j - c]? else row[j]? := by
  induction cs with
  | nil => intro row c _ j; simp [setCells]; intro h1 h2; omega
  | cons v vs ih =>
    intro row c hl j
    simp only [List.length_cons] at hl
    simp only [setCells, List.length_cons]
    rw [ih (row.set c v) (c + 1) (by simp; omega) j]
    by_cases h1 : c + 1 ≤ j ∧ j < c + 1 + vs.length
    · rw [if_pos h1, if_pos (by omega)]
      have : j - c = (j - (c + 1)) + 1 := by omega
      rw [this]; simp
    · rw [if_neg h1]
      by_cases h2 : j = c
      · subst h2
        rw [if_pos (by omega)]
        simp [show j < row.length by omega]
      · rw [if_neg (by omega), List.getElem?_set_ne (Ne.symm h2)]

theorem cells_rel {os : List Ob} {w : World} {Z : Nat → Prop} {blk : Blk} {v : AV} {cv : Value} (h : RelV os w Z blk v cv) (hs : (cellsOf v).all scal = true) :
    cv.cells.size = (cellsOf v).length ∧ (∀ j x, (cellsOf v)[j]? = some x → RelV os w Z blk x (cv.cells.getD j Go.undef)) ∧ ∀ c ∈ cv.cells, c.oneCell' = true := by
  by_cases hag : ∃ cs, v = .agg cs
  · obtain ⟨cs, rfl⟩ := hag
    simp only [cellsOf] at hs ⊢
    cases h with
    | frz _ _ h => cases h
    | agg _ cvs hsz hrel =>
      refine ⟨hsz, hrel, ?_⟩
      intro c hc
      simp only [Value.cells] at hc
      obtain ⟨j, hj, rfl⟩ := Array.mem_iff_getElem.1 hc
      have hx : cs[j]? = some cs[j] := by simp [← hsz, hj]
      have := hrel j _ hx
      have hg : cvs.getD j Go.undef = cvs[j] := by simp [Array.getD_eq_getD_getElem?, hj]
      rw [hg] at this
      exact scal_one this (by rw [List.all_eq_true] at hs; exact hs _ (List.mem_of_getElem? hx))
  · have hc1 : cellsOf v = [v] := by
      unfold cellsOf; split
      · exact absurd ⟨_, rfl⟩ hag
      · rfl
    rw [hc1] at hs ⊢
    simp at hs
    have ho := scal_one h hs
    have hcc : cv.cells = #[cv] := by cases cv <;> first | rfl | simp [Value.oneCell'] at ho
    rw [hcc]
    refine ⟨rfl, ?_, by simp [ho]⟩
    intro j x hx
    cases j with
    | zero => simp at hx; subst hx; simpa using h
    | succ j => simp at hx

section
variable {o : Oper} {σ : St} {γ : Cx} {a : Act} {K : St → Prop}

theorem load_ptr (hs : Sim σ γ) {t : TypeId} (hk : (ty P t).kind ≠ 99) {id r c : Nat} {cv : Value} (hv : RelV σ.objs γ.w γ.Z γ.blk (.ptr id r c) cv)
    {row : List AV} (hrow : rowOf σ id r = some row) {K : AV → Prop} (h : loadA (ty P t) row c K) :
    ∃ v cv', (Instr.loadAt t cv).run P γ.w = .ok cv' γ.w ∧ RelV σ.objs γ.w γ.Z γ.blk v cv' ∧ K v := by
  obtain ⟨b, base, cap, cur, tt, o, rfl, hb, hheap, hsz, hrel, _, _⟩ := ptr_row hs hv hrow
  unfold loadA at h
  simp only [Instr.loadAt, Instr.sureAddr, Sem.run_bind, Sem.run_pure, Result.andThen_ok]
  by_cases hag : (ty P t).isAgg = true
  · rw [if_pos hag] at h
    refine ⟨_, _, run_loadVar_cells hk b (base + c) (fun j => cur.getD (base + c + j) Go.undef) ?_, ?_, h.2⟩
    · intro j hj
      rw [if_pos hag] at hj
      exact cell_getD hheap (by omega)
    · rw [if_pos hag]
      refine .agg _ _ (by simp; omega) (fun j x hx => ?_)
      have hj : j < (ty P t).size := by have := (List.getElem?_eq_some_iff.1 hx).1; simp at this; omega
      rw [List.getElem?_take, if_pos hj, List.getElem?_drop] at hx
      have := hrel _ _ hx
      simp [Array.getD_eq_getD_getElem?, hj]
      simpa [Nat.add_assoc, Array.getD_eq_getD_getElem?] using this
  · rw [if_neg hag] at h
    cases hc : row[c]? with
    | none => simp [hc] at h
    | some v =>
      simp only [hc] at h
      have hcl := (List.getElem?_eq_some_iff.1 hc).1
      refine ⟨v, _, run_loadVar_cells hk b (base + c) (fun j => cur.getD (base + c + j) Go.undef) ?_, ?_, h⟩
      · intro j hj
        rw [if_neg hag] at hj
        exact cell_getD hheap (by omega)
      · rw [if_neg hag]
        exact hrel _ _ hc

theorem load_taddr (_hs : Sim σ γ) {t : TypeId} (hk : (ty P t).kind ≠ 99) {cells : List AV} {cv : Value} (hv : RelV σ.objs γ.w γ.Z γ.blk (.taddr cells) cv)
    {K : AV → Prop} (h : loadA (ty P t) cells 0 K) :
    ∃ v cv', (Instr.loadAt t cv).run P γ.w = .ok cv' γ.w ∧ RelV σ.objs γ.w γ.Z γ.blk v cv' ∧ K v := by
  cases hv with
  | frz _ _ h => cases h
  | taddr _ b o f hz hc ht =>
  unfold loadA at h
  simp only [Instr.loadAt, Instr.sureAddr, Sem.run_bind, Sem.run_pure, Result.andThen_ok]
  by_cases hag : (ty P t).isAgg = true
  · rw [if_pos hag] at h
    have hlen : (ty P t).size ≤ cells.length := by omega
    refine ⟨_, _, run_loadVar_cells hk b o f ?_, ?_, h.2⟩
    · intro j hj
      rw [if_pos hag] at hj
      exact hc j cells[j] (by simp)
    · rw [if_pos hag]
      refine .agg _ _ (by simp; omega) (fun j x hx => ?_)
      have hj : j < (ty P t).size := by have := (List.getElem?_eq_some_iff.1 hx).1; simp at this; omega
      rw [List.getElem?_take, if_pos hj, List.getElem?_drop] at hx
      simp at hx
      simp [Array.getD_eq_getD_getElem?, hj]
      exact .frz _ _ (ht j x hx)
  · rw [if_neg hag] at h
    cases hcc : cells[0]? with
    | none => simp [hcc] at h
    | some v =>
      simp only [hcc] at h
      refine ⟨v, _, run_loadVar_cells hk b o f ?_, ?_, h⟩
      · intro j hj
        rw [if_neg hag] at hj
        have : j = 0 := by omega
        subst this
        exact hc 0 v hcc
      · rw [if_neg hag]
        exact .frz _ _ (ht 0 v hcc)

theorem getD_splice (cur : Array Value) (p : Nat) (vs : List Value) (hp : p + vs.length ≤ cur.size) (k : Nat) :
    ((cur.toList.take p ++ vs ++ cur.toList.drop (p + vs.length)).toArray).getD k Go.undef = if p ≤ k ∧ k < p + vs.length then vs.getD (k - p) Go.undef else cur.getD k Go.undef := by
  simp only [Array.getD_eq_getD_getElem?, List.getElem?_toArray, List.getD_eq_getElem?_getD]
  by_cases h1 : k < p
  · rw [if_neg (by omega), List.append_assoc, List.getElem?_append_left (by simp; omega), List.getElem?_take, if_pos h1]
    simp
  · by_cases h2 : k < p + vs.length
    · rw [if_pos (by omega), List.getElem?_append_left (by simp; omega), List.getElem?_append_right (by simp; omega)]
      simp; congr 3; omega
    · rw [if_neg (by omega), List.getElem?_append_right (by simp; omega)]
      simp; congr 3; omega

theorem setRow_size (w : World) (g : Nat) (cs : Array Value) : (w.setRow g cs).heap.size = w.heap.size := by simp [World.setRow]

/-- a store through a pointer -/
theorem store_ptr (hs : Sim σ γ) {t : TypeId} (hk : (ty P t).kind ≠ 99) {id r c : Nat} {cv xv : Value} (hv : RelV σ.objs γ.w γ.Z γ.blk (.ptr id r c) cv)
    {row : List AV} (hrow : rowOf σ id r = some row) {v : AV} (hx : RelV σ.objs γ.w γ.Z γ.blk v xv)
    (h : (cellsOf v).length = (ty P t).size ∧ c + (ty P t).size ≤ row.length ∧ (cellsOf v).all scal = true) :
    ∃ w', (Instr.storeAt t cv xv).run P γ.w = .ok () w' ∧ Sim (setRowOf σ id r (setCells row c (cellsOf v))) { γ with w := w' } ∧ Fr σ.objs γ (setRowOf σ id r (setCells row c (cellsOf v))).objs { γ with w := w' } := by
  obtain ⟨b, base, cap, cur, tt, o, rfl, hb, hheap, hsz, hrel, hlv, hput⟩ := ptr_row hs hv hrow
  obtain ⟨h1, h2, h3⟩ := h
  obtain ⟨e1, e2, e3⟩ := cells_rel hx h3
  have hlen : xv.cells.toList.length = (ty P t).size := by simp [e1, h1]
  have hrun : (Instr.storeAt t (.pointer (some ⟨b, base + c, none⟩)) xv).run P γ.w = .ok () (γ.w.setRow b (cur.toList.take (base + c) ++ xv.cells.toList ++ cur.toList.drop (base + c + xv.cells.toList.length)).toArray) := by
    have hst := run_storeCells_at P b (base + c) tt xv.cells.toList 0 cur γ.w hheap (by rw [hlen]; omega) (fun x hx => e3 x (by simpa using hx))
    simp only [Nat.add_zero] at hst
    simp only [Instr.storeAt, Instr.sureAddr, Sem.run_bind, Sem.run_pure, Result.andThen_ok, storeVar, run_sizeOf hk]
    have : ¬ (xv.cells.size ≠ (ty P t).size) := by rw [e1, h1]; simp
    rw [if_neg this]
    simpa using hst
  obtain ⟨ob, ob', g1, g2, g3, g4, g5⟩ := hput (setCells row c (cellsOf v)) (cur.toList.take (base + c) ++ xv.cells.toList ++ cur.toList.drop (base + c + xv.cells.toList.length)).toArray
    (setCells_length _ _ _) (by simp [hlen]; omega) (by
      intro j x hj
      rw [setCells_get _ _ _ (by rw [h1]; exact h2)] at hj
      rw [getD_splice cur (base + c) xv.cells.toList (by rw [hlen]; omega), hlen]
      by_cases hin : c ≤ j ∧ j < c + (cellsOf v).length
      · rw [if_pos hin] at hj
        rw [if_pos (by omega)]
        have := e2 _ _ hj
        have e : base + j - (base + c) = j - c := by omega
        rw [e]
        simpa [List.getD_eq_getElem?_getD, Array.getD_eq_getD_getElem?] using this
      · rw [if_neg hin] at hj
        rw [if_neg (by omega)]
        exact hrel j x hj) (by
      intro k hk'
      rw [getD_splice cur (base + c) xv.cells.toList (by rw [hlen]; omega), hlen]
      rw [if_neg (by omega)])
  refine ⟨_, hrun, ?_, ?_⟩
  · rw [g4]
    exact hs.write g1 g2 g3 hb (setRow_heap γ.w b cur _ tt _ hheap) (fun k hk => setRow_other γ.w b k _ hk) (setRow_size _ _ _) g5
  · rw [g4]
    exact Fr.write ob' g1 g2 g3 hb (fun k hk => setRow_other γ.w b k _ hk) (setRow_size _ _ _) rfl rfl rfl

end
end Go.Am
