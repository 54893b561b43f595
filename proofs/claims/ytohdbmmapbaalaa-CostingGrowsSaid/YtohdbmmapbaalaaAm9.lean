import Derived.Test.YtohdbmmapbaalaaAm8
namespace Go.Am
variable {P : Program}

theorem foldl_put (l : List Value) : ∀ (j off : Nat) (cells : Array Value), off + j + l.length ≤ cells.size →
    ((l.zipIdx j).foldl (fun cs (x : Value × Nat) => cs.setIfInBounds (off + x.2) x.1) cells).size = cells.size ∧
    ∀ k, ((l.zipIdx j).foldl (fun cs (x : Value × Nat) => cs.setIfInBounds (off + x.2) x.1) cells).getD k Go.undef = if off + j ≤ k ∧ k < off + j + l.length then l.getD (k - (off + j)) Go.undef else cells.getD k Go.undef := by
  induction l with
  | nil => intro j off cells _; simp; intro k h1 h2; omega
  | cons v l ih =>
    intro j off cells hl
    simp only [List.length_cons] at hl
    simp only [List.zipIdx_cons, List.foldl_cons]
    obtain ⟨h1, h2⟩ := ih (j + 1) off (cells.setIfInBounds (off + j) v) (by simp; omega)
    refine ⟨by rw [h1]; simp, fun k => ?_⟩
    rw [h2 k]
    simp only [List.length_cons]
    by_cases c1 : off + (j + 1) ≤ k ∧ k < off + (j + 1) + l.length
    · rw [if_pos c1, if_pos (by omega)]
      have : k - (off + j) = (k - (off + (j + 1))) + 1 := by omega
      rw [this]; simp
    · rw [if_neg c1]
      by_cases c2 : k = off + j
      · subst c2
        rw [if_pos (by omega)]
        simp [Array.getD_eq_getD_getElem?, show off + j < cells.size by omega]
      · rw [if_neg (by omega)]
        simp [Array.getD_eq_getD_getElem?, Array.getElem?_setIfInBounds_ne (Ne.symm c2)]

theorem fill_foldl (v : Value) (off : Nat) (cells : Array Value) :
    (v.cells.zipIdx.foldl (fun cs (c, j) => cs.setIfInBounds (off + j) c) cells) = ((v.cells.toList.zipIdx 0).foldl (fun cs (x : Value × Nat) => cs.setIfInBounds (off + x.2) x.1) cells) := by
  rw [← Array.foldl_toList]
  simp

/-- lists of cells that stand for one another -/
def CellsR (R : AV → Value → Prop) (cs : List AV) (cur : Array Value) : Prop := cur.size = cs.length ∧ ∀ j x, cs[j]? = some x → R x (cur.getD j Go.undef)

theorem fill_rel {σ : St} {γ : Cx} {place : Nat → Option (Nat × Nat)} : ∀ (parts : List (Nat × AV)) (pv : List (Nat × Value)) (cs : List AV) (cur : Array Value) (cs' : List AV),
    parts.length = pv.length → (∀ (j : Nat) (p : Nat × AV) (q : Nat × Value), parts[j]? = some p → pv[j]? = some q → p.1 = q.1 ∧ RelV σ.objs γ.w γ.Z γ.blk p.2 q.2) → (∀ p ∈ parts, (cellsOf p.2).all scal = true) →
    CellsR (RelV σ.objs γ.w γ.Z γ.blk) cs cur → fillA place cs parts = some cs' → ∃ cur', Instr.fill place cur pv = some cur' ∧ CellsR (RelV σ.objs γ.w γ.Z γ.blk) cs' cur'
  | [], pv, cs, cur, cs', hl, _, _, hc, h => by
    have : pv = [] := List.eq_nil_of_length_eq_zero hl.symm
    subst this
    simp [fillA] at h
    subst h
    exact ⟨cur, by simp [Instr.fill], hc⟩
  | (i, v) :: rest, [], cs, cur, cs', hl, _, _, _, _ => by simp at hl
  | (i, v) :: rest, (i', x) :: pv, cs, cur, cs', hl, hr, hs, hc, h => by
    obtain ⟨e1, e2⟩ := hr 0 (i, v) (i', x) rfl rfl
    simp only at e1 e2
    subst e1
    simp only [fillA] at h
    cases hp : place i with
    | none => simp [hp] at h
    | some os =>
      obtain ⟨off, size⟩ := os
      simp only [hp] at h
      split at h
      · rename_i hcond
        obtain ⟨h1, h2⟩ := hcond
        obtain ⟨g1, g2, g3⟩ := cells_rel e2 (hs (i, v) (by simp))
        have hsz : x.cells.size = size := by rw [g1, h1]
        obtain ⟨hcs, hcr⟩ := hc
        have hfit : off + 0 + x.cells.toList.length ≤ cur.size := by simp [hsz, hcs]; omega
        obtain ⟨f1, f2⟩ := foldl_put x.cells.toList 0 off cur hfit
        have hnew : CellsR (RelV σ.objs γ.w γ.Z γ.blk) (setCells cs off (cellsOf v)) (x.cells.zipIdx.foldl (fun cs (c, j) => cs.setIfInBounds (off + j) c) cur) := by
          rw [fill_foldl]
          refine ⟨by rw [f1, setCells_length]; exact hcs, fun j y hj => ?_⟩
          rw [setCells_get _ _ _ (by rw [h1]; exact h2)] at hj
          rw [f2 j]
          simp only [Nat.add_zero, Array.length_toList, hsz]
          rw [h1] at hj
          by_cases hin : off ≤ j ∧ j < off + size
          · rw [if_pos hin] at hj
            rw [if_pos hin]
            have := g2 _ _ hj
            simpa [List.getD_eq_getElem?_getD, Array.getD_eq_getD_getElem?] using this
          · rw [if_neg hin] at hj
            rw [if_neg hin]
            exact hcr j y hj
        obtain ⟨cur', k1, k2⟩ := fill_rel rest pv _ _ cs' (by simpa using hl) (fun j p q hp hq => hr (j + 1) p q (by simpa using hp) (by simpa using hq)) (fun p hp => hs p (by simp [hp])) hnew h
        refine ⟨cur', ?_, k2⟩
        simp only [Instr.fill, hp]
        rw [if_neg ?_]
        · exact k1
        · simp [hsz, hcs]; omega
      · simp at h

theorem lits_rel {os : List Ob} {w : World} {Z : Nat → Prop} {blk : Blk} (z : List Value) : CellsR (RelV os w Z blk) (z.map .lit) z.toArray := by
  refine ⟨by simp, fun j x hx => ?_⟩
  simp only [List.getElem?_map] at hx
  cases hj : z[j]? with
  | none => simp [hj] at hx
  | some y =>
    simp [hj] at hx
    subst hx
    simp [Array.getD_eq_getD_getElem?, hj]
    exact .lit y

theorem parts_rel {σ : St} {γ : Cx} (h : Sim σ γ) {a : Act} (ha : γ.tmps = a.tmps) (parts : Array (Nat × Operand)) :
    (parts.toList.map fun p => (p.1, ev σ p.2)).length = (parts.map fun (i, x) => (i, a.eval x)).toList.length ∧
    ∀ (j : Nat) (p : Nat × AV) (q : Nat × Value), (parts.toList.map fun p => (p.1, ev σ p.2))[j]? = some p → (parts.map fun (i, x) => (i, a.eval x)).toList[j]? = some q → p.1 = q.1 ∧ RelV σ.objs γ.w γ.Z γ.blk p.2 q.2 := by
  refine ⟨by simp, fun j p q hp hq => ?_⟩
  simp only [Array.toList_map, List.getElem?_map] at hp hq
  cases hj : parts.toList[j]? with
  | none => simp [hj] at hp
  | some y =>
    simp only [hj, Option.map_some, Option.some.injEq] at hp hq
    subst hp
    subst hq
    exact ⟨rfl, ev_rel h ha y.2⟩

theorem build_sound {σ : St} {γ : Cx} (h : Sim σ γ) {a : Act} (ha : γ.tmps = a.tmps) {t : TypeId} {parts : Array (Nat × Operand)} {z : List Value} (hk : (ty P t).kind = 3) (hz : (ty P t).zero = some z) {cs : List AV}
    (hf : fillA (fun i => ((ty P t).flds[i]?).map fun f => (f.1, f.2.2)) (z.map .lit) (parts.toList.map fun p => (p.1, ev σ p.2)) = some cs)
    (hs : (parts.toList.all fun p => (cellsOf (ev σ p.2)).all scal) = true) (hp : ((ty P t).flds.all fun f => decide (0 < f.2.2)) = true) :
    ∃ cur, (Instr.build t (parts.map fun (i, x) => (i, a.eval x))).run P γ.w = .ok (.agg cur) γ.w ∧ RelV σ.objs γ.w γ.Z γ.blk (.agg cs) (.agg cur) := by
  obtain ⟨it, d, hi, hd, _, _, hzero⟩ := ty_info (P := P) (t := t) (by rw [hk]; simp)
  obtain ⟨fs, hu, hfl⟩ := ty_struct hk
  rw [hzero] at hz
  cases hv : it.zero with
  | none => simp [hv] at hz
  | some zv =>
    simp [hv] at hz
    have hzc : z.toArray = zv.cells := by rw [← hz]
    obtain ⟨hl, hr⟩ := parts_rel h ha parts
    obtain ⟨cur, h1, h2⟩ := fill_rel (σ := σ) (γ := γ) _ _ _ _ cs hl hr (fun p hp => by
      simp only [List.mem_map] at hp
      obtain ⟨q, hq, rfl⟩ := hp
      rw [List.all_eq_true] at hs
      exact hs q hq) (lits_rel z) hf
    refine ⟨cur, run_build γ.w t _ cur ?_, .agg _ _ h2.1 h2.2⟩
    unfold Program.built
    rw [hi, hu]
    simp only [hv]
    have hplaces : ∀ (l : List Field), (∀ f ∈ l, 0 < sizeT P f.type) → l.mapM (fun f => (P.info? f.type).map fun i => (f.offset, i.size)) = some (l.map fun f => (f.offset, sizeT P f.type)) := by
      intro l
      induction l with
      | nil => intro _; simp
      | cons f l ih =>
        intro hl
        have h0 := hl f (by simp)
        unfold sizeT at h0
        cases hfi : P.info? f.type with
        | none => simp [hfi] at h0
        | some i =>
          simp only [List.mapM_cons, hfi, Option.map_some, ih (fun g hg => hl g (by simp [hg]))]
          simp [sizeT, hfi]
    rw [hplaces fs.toList (by
      intro f hf'
      rw [hfl] at hp
      simp only [List.all_map, List.all_eq_true] at hp
      have := hp f hf'
      simpa using this)]
    simp only
    rw [← hzc]
    have : (fun (x : Nat) => ((fs.toList.map fun f => (f.offset, sizeT P f.type)).toArray[x]?)) = (fun (i : Nat) => ((ty P t).flds[i]?).map fun (f : Nat × Nat × Nat) => (f.1, f.2.2)) := by
      funext i
      rw [hfl]
      simp
      cases fs[i]? <;> simp
    rw [this]
    exact h1

theorem toRows_length (sz : Nat) : ∀ (n : Nat) (cs : List AV), (toRows sz n cs).length = n
  | 0, _ => rfl
  | n + 1, cs => by simp [toRows, toRows_length sz n]

theorem toRows_rows (sz : Nat) : ∀ (n : Nat) (cs : List AV), n * sz ≤ cs.length → ∀ row ∈ toRows sz n cs, row.length = sz
  | 0, _, _, row, h => by simp [toRows] at h
  | n + 1, cs, hl, row, h => by
    rw [Nat.add_mul] at hl
    simp only [toRows, List.mem_cons] at h
    rcases h with rfl | h
    · simp; omega
    · exact toRows_rows sz n (cs.drop sz) (by simp; omega) row h

theorem toRows_cell (sz : Nat) : ∀ (n : Nat) (cs : List AV) (r c : Nat) (v : AV), cellAt (toRows sz n cs) r c = some v → cs[r * sz + c]? = some v
  | 0, _, r, c, v, h => by simp [toRows, cellAt] at h
  | n + 1, cs, 0, c, v, h => by
    simp only [toRows, cellAt, List.getElem?_cons_zero, Option.bind_some, List.getElem?_take] at h
    split at h
    · simpa using h
    · simp at h
  | n + 1, cs, r + 1, c, v, h => by
    have h' : cellAt (toRows sz n (cs.drop sz)) r c = some v := by simpa [toRows, cellAt] using h
    have := toRows_cell sz n (cs.drop sz) r c v h'
    rw [List.getElem?_drop] at this
    rw [Nat.add_mul]
    have e : r * sz + 1 * sz + c = sz + (r * sz + c) := by omega
    rw [e]
    exact this

theorem zeros_rel {os : List Ob} {w : World} {Z : Nat → Prop} {blk : Blk} (z : List Value) (n m : Nat) (hm : m = n * z.length) (hz : 0 < z.length) :
    CellsR (RelV os w Z blk) ((List.range n).flatMap fun _ => z.map .lit) ((Array.range m).map (z.toArray[· % z.toArray.size]!)) := by
  subst hm
  have hlen : ((List.range n).flatMap fun _ => z.map AV.lit).length = n * z.length := by
    induction n with
    | zero => simp
    | succ n ih => rw [List.range_succ, List.flatMap_append, List.length_append, ih]; simp [Nat.add_mul]
  refine ⟨by simp [hlen], fun j x hx => ?_⟩
  have hj : j < n * z.length := by rw [← hlen]; exact (List.getElem?_eq_some_iff.1 hx).1
  have key : ∀ (n j : Nat), j < n * z.length → ((List.range n).flatMap fun _ => z.map AV.lit)[j]? = some (.lit (z[j % z.length]'(Nat.mod_lt _ hz))) := by
    intro n
    induction n with
    | zero => intro j hj; simp at hj
    | succ n ih =>
      intro j hj
      have hln : ((List.range n).flatMap fun _ => z.map AV.lit).length = n * z.length := by
        clear ih hj hx hlen
        induction n with
        | zero => simp
        | succ n ih => rw [List.range_succ, List.flatMap_append, List.length_append, ih]; simp [Nat.add_mul]
      rw [List.range_succ, List.flatMap_append]
      by_cases hjn : j < n * z.length
      · rw [List.getElem?_append_left (by rw [hln]; exact hjn)]
        exact ih j hjn
      · rw [List.getElem?_append_right (by rw [hln]; omega), hln]
        rw [Nat.add_mul] at hj
        have hlt : j - n * z.length < z.length := by omega
        have hmod : j % z.length = j - n * z.length := by
          have : j = (j - n * z.length) + n * z.length := by omega
          rw [this, Nat.add_mul_mod_self_right, Nat.mod_eq_of_lt hlt]
          omega
        simp [hlt, hmod]
  rw [key n j hj] at hx
  simp at hx
  subst hx
  have hm : j % z.length < z.length := Nat.mod_lt _ hz
  simp [Array.getD_eq_getD_getElem?, hj, hm]
  exact .lit _

end Go.Am
