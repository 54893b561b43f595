import Derived.Test.YtohdbmmapbaalaaAm23
namespace Go.Am
variable {σ : St}

def RowsR (R : AV → AV → Prop) : List (List AV) → List (List AV) → Prop
  | [], [] => True
  | c :: cs, d :: ds => ArgsR R c d ∧ RowsR R cs ds
  | _, _ => False

theorem RowsR.spec {R : AV → AV → Prop} : ∀ {cs ds : List (List AV)}, RowsR R cs ds → cs.length = ds.length ∧ ∀ (r c : Nat) v, cellAt cs r c = some v → cellAt ds r c = some ((cellAt ds r c).getD .undef) ∧ R v ((cellAt ds r c).getD .undef)
  | [], [], _ => ⟨rfl, by simp [cellAt]⟩
  | c :: cs, d :: ds, h => by
    obtain ⟨a, b⟩ := RowsR.spec h.2
    refine ⟨by simp [a], fun r j v hv => ?_⟩
    cases r with
    | zero =>
      simp only [cellAt, List.getElem?_cons_zero, Option.bind_some] at hv ⊢
      obtain ⟨e1, e2⟩ := h.1.spec
      have hj : j < d.length := by rw [← e1]; exact (List.getElem?_eq_some_iff.1 hv).1
      rw [List.getElem?_eq_getElem hj]
      exact ⟨rfl, e2 j v _ hv (List.getElem?_eq_getElem hj)⟩
    | succ r =>
      have := b r j v (by simpa [cellAt] using hv)
      simpa [cellAt] using this

/-- a slice of one's own is only read from now on, row by row -/
theorem Frz.mk {kp : Nat → Prop} {id sz len : Nat} {rows rows' : List (List AV)} (ho : σ.objs[id]? = some (.arr sz rows)) (hl : len = rows.length) (hsel : ¬ kp id) (hw : ∀ row ∈ rows', row.length = sz) (h : RowsR (Frz σ kp) rows' rows) : Frz σ kp (.tree sz rows') (.ref id sz 0 len) := by
  obtain ⟨a, b⟩ := h.spec
  subst hl
  refine .ref id sz 0 rows.length rows rows' (fun r c => (cellAt rows r c).getD .undef) ho hsel (by simp [a]) hw (fun r c v hv => ?_) (fun r c v hv => ?_)
  · simpa using (b r c v hv).1
  · exact (b r c v hv).2

end Go.Am
