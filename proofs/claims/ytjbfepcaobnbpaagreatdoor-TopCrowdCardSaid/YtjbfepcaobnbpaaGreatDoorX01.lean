import Derived.Test.YtjbfepcaobnbpaaGreatDoorX00
set_option linter.unusedVariables false
set_option linter.unusedSimpArgs false
set_option linter.unnecessarySimpa false
set_option linter.unusedSectionVars false
section
namespace Go.Am
variable {P : Program}

theorem cellAt_lt {rows : List (List AV)} {sz r c : Nat} {v : AV} (hr : ∀ row ∈ rows, row.length = sz) (h : cellAt rows r c = some v) : r < rows.length ∧ c < sz := by
  simp only [cellAt, Option.bind_eq_some_iff] at h
  obtain ⟨y, hy, hyc⟩ := h
  have h1 := hr y (List.mem_of_getElem? hy)
  have h2 := (List.getElem?_eq_some_iff.1 hyc).1
  have h3 := (List.getElem?_eq_some_iff.1 hy).1
  omega

theorem cellAt_append {p s : List (List AV)} {r c : Nat} : cellAt (p ++ s) r c = if r < p.length then cellAt p r c else cellAt s (r - p.length) c := by
  unfold cellAt
  split
  · rw [List.getElem?_append_left (by assumption)]
  · rw [List.getElem?_append_right (by omega)]

theorem flat_lt {r c n sz : Nat} (hr : r < n) (hc : c < sz) : r * sz + c < n * sz := by
  have : (r + 1) * sz ≤ n * sz := Nat.mul_le_mul_right _ hr
  rw [Nat.add_mul] at this; omega

/-- the cells of two rows of rows, one behind the other -/
theorem two_cells {R : AV → Value → Prop} {p s : List (List AV)} {sz : Nat} (hp : ∀ row ∈ p, row.length = sz) (hs : ∀ row ∈ s, row.length = sz) {go g : Nat → Value}
    (h1 : ∀ r c v, cellAt p r c = some v → R v (go (r * sz + c))) (h2 : ∀ r c v, cellAt s r c = some v → R v (g (r * sz + c))) (rest : List Value)
    (r c : Nat) (v : AV) (h : cellAt (p ++ s) r c = some v) :
    R v (((((List.range (p.length * sz)).map go) ++ ((List.range (s.length * sz)).map g)) ++ rest).toArray.getD (r * sz + c) Go.undef) := by
  rw [cellAt_append] at h
  simp only [Array.getD_eq_getD_getElem?, List.getElem?_toArray]
  split at h
  · obtain ⟨hr, hc⟩ := cellAt_lt hp h
    have := flat_lt hr hc
    rw [List.append_assoc, List.getElem?_append_left (by simpa using this)]
    simp [this]
    exact h1 r c v h
  · rename_i hge
    obtain ⟨hr, hc⟩ := cellAt_lt hs h
    have hl := flat_lt hr hc
    have e : r * sz + c = p.length * sz + ((r - p.length) * sz + c) := by
      have : r = p.length + (r - p.length) := by omega
      conv => lhs; rw [this, Nat.add_mul]
      omega
    rw [List.getElem?_append_left (by simp; omega), List.getElem?_append_right (by simp; omega)]
    have e2 : r * sz + c - (List.map go (List.range (p.length * sz))).length = (r - p.length) * sz + c := by simp; omega
    rw [e2]
    simp [hl]
    exact h2 _ _ _ h

/-- the slice that is appended to -/
theorem dst_cells {σ : St} {γ : Cx} (h : Sim σ γ) {x : AV} {cv : Value} (hv : RelV σ.objs γ.w γ.Z γ.blk x cv) {sz : Nat} {pre : List (List AV)} {σ1 : St} (hs : dstRows σ sz x = some (pre, σ1)) :
    (Sim σ1 γ ∧ Fr σ.objs γ σ1.objs γ ∧ ∃ k, σ1.objs.length = k) ∧
    ((cv = .slice none 0 0 ∧ pre = []) ∨
     (∃ id b x bo cur t, cv = .slice (some ⟨b, x, none⟩) 0 0 ∧ pre = [] ∧ Live σ.objs id ∧ σ1 = { σ with objs := σ.objs.set id .gone } ∧ γ.blk id = some (b, bo) ∧ γ.w.heap[b]? = some (.cells cur t (0, 0))) ∨
     ∃ id off rows b o cap cap' cur t, σ.objs[id]? = some (.arr sz rows) ∧ σ1 = { σ with objs := σ.objs.set id .gone } ∧ γ.blk id = some (b, o, cap) ∧ γ.w.heap[b]? = some (.cells cur t (0, 0)) ∧
      cv = .slice (some ⟨b, o + off * sz, none⟩) pre.length cap' ∧ pre.length ≤ cap' ∧ cap' ≤ maxLen ∧ o + off * sz + cap' * sz ≤ cur.size ∧ (∀ row ∈ pre, row.length = sz) ∧
      ∀ r c v, cellAt pre r c = some v → RelV σ.objs γ.w γ.Z γ.blk v (cur.getD (o + off * sz + (r * sz + c)) Go.undef)) := by
  unfold dstRows at hs
  split at hs
  · simp at hs
    obtain ⟨rfl, rfl⟩ := hs
    exact ⟨⟨h, Fr.refl _ _, _, rfl⟩, .inl ⟨hv.lit_inv, rfl⟩⟩
  · rename_i id sz' off len
    cases ho : σ.objs[id]? with
    | none => simp [ho] at hs
    | some ob =>
      have hob := h.obs id ob ho
      cases ob with
      | gone => simp [ho] at hs
      | mp ag L => simp [ho] at hs
      | var cells => simp [ho] at hs
      | arr sz'' rows =>
        simp only [ho] at hs
        split at hs
        · rename_i he
          obtain ⟨he1, he2⟩ := he
          subst he1
          subst he2
          simp at hs
          obtain ⟨rfl, rfl⟩ := hs
          refine ⟨⟨h.kill id, Fr.kill _ _ _, _, rfl⟩, ?_⟩
          obtain ⟨_, hrl, hob⟩ := hob
          cases hv with
          | frz _ _ h => cases h
          | deadRef _ _ _ _ _ h => rw [ho] at h; simp at h
          | refNil _ _ h hb => left; exact ⟨rfl, by simp⟩
          | refEnd _ _ _ b x bo rows' h' hb hl =>
            right; left
            rcases hob with ⟨h1, _⟩ | ⟨b', o', cap'', cur, t, h1, h2, _⟩
            · rw [hb] at h1; simp at h1
            · rw [hb] at h1; simp at h1
              obtain ⟨rfl, _⟩ := h1
              exact ⟨id, b, x, bo, cur, t, rfl, by simp, ⟨_, ho, by simp⟩, rfl, hb, h2⟩
          | ref _ _ _ _ b o cap cap' rows' h' hb hl hc hlc =>
            rw [ho] at h'; simp at h'
            subst h'
            rcases hob with ⟨h1, _⟩ | ⟨b', o', cap'', cur, t, h1, h2, h3, h4, h5, h6⟩
            · rw [hb] at h1; simp at h1
            · rw [hb] at h1; simp at h1
              obtain ⟨rfl, rfl, rfl⟩ := h1
              right; right
              have hlen : ((rows.drop off).take len).length = len := by simp; omega
              refine ⟨id, off, rows, b, o, cap, cap', cur, t, ho, rfl, hb, h2, by rw [hlen], by omega, by omega, ?_, ?_, ?_⟩
              · have : (off + cap') * sz'' ≤ cap * sz'' := Nat.mul_le_mul_right _ hc
                rw [Nat.add_mul] at this; omega
              · intro row hrow
                exact hrl row (List.mem_of_mem_drop (List.mem_of_mem_take hrow))
              · intro r c v hcv
                simp only [cellAt, List.getElem?_take, List.getElem?_drop] at hcv
                split at hcv
                · have := h6 (off + r) c v hcv
                  rw [Nat.add_mul] at this
                  have e : o + (off * sz'' + r * sz'' + c) = o + off * sz'' + (r * sz'' + c) := by omega
                  rw [e] at this
                  exact this
                · simp at hcv
        · simp at hs
  · simp at hs

theorem run_append_room' (w : World) (t ty' e : TypeId) (i : TypeInfo) (ht : P.underlying t = some (.slice e)) (hi : P.info? e = some i)
    (g o sLen sCap : Nat) (cur : Array Value) (tt : TypeId) (hg : w.heap[g]? = some (.cells cur tt (0, 0)))
    (xa : Option Addr) (m c : Nat) (news : List Value) (hl : news.length = m * i.size) (hnews : 0 < m → ∃ a, xa = some a ∧ ∀ j u, news[j]? = some u → w.cell? (a.add j) = some u) (h1 : ∀ u ∈ news, u.oneCell' = true)
    (hroom : sLen + m ≤ sCap) (hfit : o + sLen * i.size + news.length ≤ cur.size) :
    (Builtin.append_ #[t, t] ty' #[.slice (some ⟨g, o, none⟩) sLen sCap, .slice xa m c]).run P w =
      .ok (.slice (some ⟨g, o, none⟩) (sLen + m) sCap) (w.setRow g (cur.toList.take (o + sLen * i.size) ++ news ++ cur.toList.drop (o + sLen * i.size + news.length)).toArray) := by
  have hf : (Builtin.firstCells i.size m (.slice xa m c)).run P w = .ok news.toArray w := by
    rcases Nat.eq_zero_or_pos m with h0 | hp
    · subst h0
      have hn : news = [] := List.eq_nil_of_length_eq_zero (by simpa using hl)
      subst hn
      cases xa <;> simp [Builtin.firstCells, loadCells, loadCellsFrom]
    · obtain ⟨a, rfl, hc⟩ := hnews hp
      exact run_firstCells_some w i.size m a m c news hl hc
  have hst := run_storeCells_at P g (o + sLen * i.size) tt news 0 cur w hg (by simpa using hfit) h1
  simp only [Nat.add_zero] at hst
  simp [Builtin.append_, run_underlying ht, sizeOf, typeInfo, hi, Builtin.lenOf, hroom, hf, Addr.add_none, hst]

theorem getElem?_range_map {g : Nat → Value} {n j : Nat} {u : Value} (h : ((List.range n).map g)[j]? = some u) : j < n ∧ u = g j := by
  have hj := (List.getElem?_eq_some_iff.1 h).1
  simp at hj
  simp [hj] at h
  exact ⟨hj, h.symm⟩

theorem append_sound {σ σ1 : St} {γ : Cx} (h : Sim σ γ) {t oty : TypeId} {sz : Nat} {z : List Value} (hk : (ty P t).kind = 1) (hke : (ty P (ty P t).elem).kind ≠ 99) (hz : (ty P (ty P t).elem).zero = some z)
    (hsz : sz = (ty P (ty P t).elem).size) (h0 : 0 < sz) (hzl : z.length = sz) {sD x : AV} {cvS cvX : Value} (hS : RelV σ.objs γ.w γ.Z γ.blk sD cvS) (hX : RelV σ.objs γ.w γ.Z γ.blk x cvX)
    {pre src : List (List AV)} (hd : dstRows σ sz sD = some (pre, σ1)) (hsrc : srcRows σ x = some (sz, src)) (hlen : pre.length + src.length ≤ 549755813888) (hby : (ty P (ty P t).elem).bytes ≤ 256)
    (hsc : (src.all fun row => row.all scal) = true) :
    ∃ cv' γ1, (Builtin.append_ #[t, t] oty #[cvS, cvX]).run P γ.w = .ok cv' γ1.w ∧ γ1.tmps = γ.tmps ∧ Sim { σ1 with objs := σ1.objs ++ [.arr sz (pre ++ src)] } γ1 ∧
      Fr σ.objs γ (σ1.objs ++ [.arr sz (pre ++ src)]) γ1 ∧ RelV (σ1.objs ++ [.arr sz (pre ++ src)]) γ1.w γ1.Z γ1.blk (.ref σ1.objs.length sz 0 (pre.length + src.length)) cv' := by
  obtain ⟨i, d, hi, hud, hsize, hbytes, hzero⟩ := ty_info hke
  have ht := ty_slice hk
  have hisz : i.size = sz := by rw [← hsize, ← hsz]
  obtain ⟨zv, hzv, hzc⟩ : ∃ zv, i.zero = some zv ∧ zv.cells.size = sz := by
    rw [hzero] at hz
    cases hv : i.zero with
    | none => simp [hv] at hz
    | some v => simp [hv] at hz; exact ⟨v, rfl, by rw [← hzl, ← hz]; simp⟩
  obtain ⟨ad, c, g, rfl, hsr, hsa, hsrel⟩ := src_cells h hX h0 hsrc
  obtain ⟨⟨hs1, hf1, _⟩, hcase⟩ := dst_cells h hS hd
  let news := (List.range (src.length * sz)).map g
  have hnl : news.length = src.length * i.size := by simp [news, hisz]
  have hnone : ∀ u ∈ news, u.oneCell' = true := by
    intro u hu
    obtain ⟨j, hj⟩ := List.mem_iff_getElem?.1 hu
    obtain ⟨hjl, rfl⟩ := getElem?_range_map hj
    have h1 : j / sz < src.length := Nat.div_lt_of_lt_mul (by rw [Nat.mul_comm]; exact hjl)
    have h2 : j % sz < sz := Nat.mod_lt _ h0
    have hrl : (src[j / sz]).length = sz := hsr _ (List.getElem_mem h1)
    have := hsrel (j / sz) (j % sz) ((src[j / sz])[j % sz]'(by omega)) (by simp [cellAt, h1, h2, hrl])
    have e : j / sz * sz + j % sz = j := by rw [Nat.mul_comm]; exact Nat.div_add_mod j sz
    rw [e] at this
    refine scal_one this ?_
    rw [List.all_eq_true] at hsc
    have := hsc _ (List.getElem_mem h1)
    rw [List.all_eq_true] at this
    exact this _ (List.getElem_mem _)
  have hnews : 0 < src.length → ∃ a, ad = some a ∧ ∀ j u, news[j]? = some u → γ.w.cell? (a.add j) = some u := by
    intro hp
    obtain ⟨b, o, rfl, hc⟩ := hsa hp
    refine ⟨_, rfl, fun j u hu => ?_⟩
    obtain ⟨hjl, rfl⟩ := getElem?_range_map hu
    rw [Addr.add_none]
    exact hc j hjl
  have hmax : pre.length + src.length ≤ maxLen := by unfold maxLen; omega
  have hbb : (pre.length + src.length) * i.bytes ≤ 140737488355328 := by
    rw [← hbytes]
    calc _ ≤ 549755813888 * 256 := Nat.mul_le_mul hlen hby
      _ ≤ _ := by omega
  -- a new block
  have fresh : ∀ (old : Nat) (go : Nat → Value), (∀ row ∈ pre, row.length = sz) → (∀ r c v, cellAt pre r c = some v → RelV σ.objs γ.w γ.Z γ.blk v (go (r * sz + c))) →
      ∀ (w' : World) (cap : Nat), pre.length + src.length ≤ cap → cap ≤ maxLen →
        w' = γ.w.drew.alloc (.cells (((List.range (pre.length * sz)).map go).toArray ++ news.toArray ++ Builtin.zeroCells zv.cells (cap - (pre.length + src.length))) (ty P t).elem) →
        ∃ γ1 : Cx, γ1.w = w' ∧ γ1.tmps = γ.tmps ∧ Sim { σ1 with objs := σ1.objs ++ [.arr sz (pre ++ src)] } γ1 ∧ Fr σ.objs γ (σ1.objs ++ [.arr sz (pre ++ src)]) γ1 ∧
          RelV (σ1.objs ++ [.arr sz (pre ++ src)]) γ1.w γ1.Z γ1.blk (.ref σ1.objs.length sz 0 (pre.length + src.length)) (.slice (some ⟨γ.w.heap.size, 0, none⟩) (pre.length + src.length) cap) := by
    intro old go hpl hprel w' cap hc1 hc2 hw'
    have hR1 : ∀ v cv, RelV σ.objs γ.w γ.Z γ.blk v cv → RelV σ1.objs γ.w γ.Z γ.blk v cv := by
      intro v cv hv
      refine hv.mono (fun b hb => ⟨hb, rfl⟩) (fun i o ho => ?_)
      unfold dstRows at hd
      split at hd
      · simp at hd
        rw [← hd.2]
        by_cases hgo : o = .gone
        · subst hgo; exact .inl ho
        · exact .inr ⟨rfl, o, ho, Ob.like_refl hgo⟩
      · rename_i id sz' off len
        have hi : i < σ.objs.length := (List.getElem?_eq_some_iff.1 ho).1
        split at hd
        · split at hd
          · simp at hd
            rw [← hd.2]
            show (σ.objs.set id Ob.gone)[i]? = some Ob.gone ∨ _
            simp only [List.getElem?_set]
            by_cases hii : id = i
            · left; simp [hii, hi]
            · rw [if_neg hii]
              by_cases hgo : o = .gone
              · subst hgo; exact .inl ho
              · exact .inr ⟨trivial, o, ho, Ob.like_refl hgo⟩
          · simp at hd
        · simp at hd
      · simp at hd
    let cur := ((List.range (pre.length * sz)).map go).toArray ++ news.toArray ++ Builtin.zeroCells zv.cells (cap - (pre.length + src.length))
    have hob : ObNew σ1.objs γ.w γ.Z γ.blk 0 cap cur (.arr sz (pre ++ src)) := by
      refine ⟨h0, ?_, ?_, by simpa using hc1, hc2, ?_⟩
      · intro row hrow
        rcases List.mem_append.1 hrow with h | h
        · exact hpl row h
        · exact hsr row h
      · simp only [cur, news, Array.size_append, List.size_toArray, List.length_map, List.length_range, size_zeroCells, hzc, ← Nat.add_mul]
        have : pre.length + src.length + (cap - (pre.length + src.length)) = cap := by omega
        rw [this]; omega
      · intro r c v hv
        have := two_cells (R := RelV σ1.objs γ.w γ.Z γ.blk) hpl hsr (fun r c v hv => hR1 _ _ (hprel r c v hv)) (fun r c v hv => hR1 _ _ (hsrel r c v hv)) (Builtin.zeroCells zv.cells (cap - (pre.length + src.length))).toList r c v hv
        rw [Nat.zero_add]
        have e : cur = (((List.range (pre.length * sz)).map go) ++ ((List.range (src.length * sz)).map g) ++ (Builtin.zeroCells zv.cells (cap - (pre.length + src.length))).toList).toArray := by
          apply Array.ext'
          simp [cur, news]
        rw [e]
        exact this
    refine ⟨{ γ with w := w', blk := updB γ.blk σ1.objs.length (some (γ.w.heap.size, 0, cap)) }, rfl, rfl, ?_, ?_, ?_⟩
    · exact hs1.push (t := (ty P t).elem) (cur := cur) (by rw [hw']; rfl) hob
    · exact hf1.trans (Fr.push (σ := σ1) (t := (ty P t).elem) (cur := cur) _ (by rw [hw']; rfl) (by rw [hw']; rfl) (by rw [hw']; rfl) (by rw [hw']; rfl) (by rw [hw']; exact Nat.le_succ _))
    · have := RelV.ref (os := σ1.objs ++ [.arr sz (pre ++ src)]) (w := w') (Z := γ.Z) (blk := updB γ.blk σ1.objs.length (some (γ.w.heap.size, 0, cap))) σ1.objs.length sz 0 (pre.length + src.length) γ.w.heap.size 0 cap cap (pre ++ src)
        (by simp) (by simp [updB]) (by simp) (by omega) hc1
      simpa using this
  rcases hcase with ⟨rfl, rfl⟩ | ⟨id, b, x, bo, cur, tt, rfl, rfl, hlv, rfl, hb, hheap⟩ | ⟨id, off, rows, b, o, cap, cap', cur, tt, ho, rfl, hb, hheap, rfl, hpc, hcm, hfit, hpl, hprel⟩
  · rcases Nat.eq_zero_or_pos src.length with hm | hp
    · -- nil, nothing appended
      have hsn : src = [] := List.eq_nil_of_length_eq_zero hm
      subst hsn
      refine ⟨.slice none 0 0, { γ with blk := updB γ.blk σ1.objs.length none }, ?_, rfl, hs1.pushNil h0, hf1.trans (Fr.pushNil _ _ _), ?_⟩
      · cases ad <;> simp [Builtin.append_, run_underlying ht, sizeOf, typeInfo, hi, Builtin.lenOf, Builtin.firstCells, loadCells, loadCellsFrom]
      · exact .refNil _ _ (by simp) (by simp [updB])
    · obtain ⟨a, rfl, hc⟩ := hnews hp
      have hr := run_append_nil (P := P) γ.w t oty _ i zv ht hi hzv a src.length c news hnl hc hp (by unfold maxLen at hmax; simp at hmax; omega) (by have hb := hbb; simp only [List.length_nil, Nat.zero_add] at hb; omega)
      have hge := grownCap_ge γ.w src.length 0 (ty P t).elem
      have hcm := grownCap_le_maxLen γ.w src.length 0 (ty P t).elem (by simpa using hmax)
      obtain ⟨γ1, e1, e2, e3, e4, e5⟩ := fresh 0 (fun _ => Go.undef) (by simp) (by simp [cellAt]) _ (grownCap γ.w src.length 0 (ty P t).elem) (by simpa using hge) hcm rfl
      simp only [List.length_nil, Nat.zero_mul, List.range_zero, List.map_nil, Nat.zero_add, Array.empty_append] at e1 e5
      refine ⟨.slice (some ⟨γ.w.heap.size, 0, none⟩) src.length (grownCap γ.w src.length 0 (ty P t).elem), γ1, ?_, e2, e3, e4, ?_⟩
      · rw [hr, e1]
      · simpa using e5
  · rcases Nat.eq_zero_or_pos src.length with hm | hp
    · have hsn : src = [] := List.eq_nil_of_length_eq_zero hm
      subst hsn
      obtain ⟨ob, ho, hg⟩ := hlv
      have hoth : ∀ k, k ≠ b → γ.w.heap[k]? = γ.w.heap[k]? := fun _ _ => rfl
      have hsim := h.reown (ob' := .arr sz []) (o' := 0) (cap' := 0) ho hg (o := bo.1) (cap := bo.2) hb hheap hoth rfl ⟨h0, by simp, by simp, by simp, by simp [maxLen], by simp [cellAt]⟩
      have hfr := Fr.reown (γ := γ) (o' := 0) (cap' := 0) (.arr sz []) ho hg (o := bo.1) (cap := bo.2) hb (w' := γ.w) hoth rfl rfl rfl rfl
      refine ⟨.slice (some ⟨b, x, none⟩) 0 0, { γ with w := γ.w, blk := updB γ.blk σ.objs.length (some (b, 0, 0)) }, ?_, rfl, by simpa using hsim, by simpa using hfr, ?_⟩
      · cases ad <;> simp [Builtin.append_, run_underlying ht, sizeOf, typeInfo, hi, Builtin.lenOf, Builtin.firstCells, loadCells, loadCellsFrom, storeCells]
      · have := RelV.refEnd (os := σ.objs.set id .gone ++ [.arr sz []]) (w := γ.w) (Z := γ.Z) (blk := updB γ.blk σ.objs.length (some (b, 0, 0))) σ.objs.length sz 0 b x (0, 0) []
          (by rw [List.getElem?_append_right (by simp)]; simp) (by simp [updB]) (by simp)
        simpa using this
    · obtain ⟨a, rfl, hc⟩ := hnews hp
      have hr := run_append_grow (P := P) γ.w t oty _ i zv ht hi hzv ⟨b, x, none⟩ 0 0 [] (by simp) (by simp) a src.length c news hnl hc (by omega) (by unfold maxLen at hmax; simp at hmax; omega) (growslice_fits (by omega) (by simpa using hbb))
      have hge := grownCap_ge γ.w (0 + src.length) 0 (ty P t).elem
      have hcm := grownCap_le_maxLen γ.w (0 + src.length) 0 (ty P t).elem (by simpa using hmax)
      obtain ⟨γ1, e1, e2, e3, e4, e5⟩ := fresh 0 (fun _ => Go.undef) (by simp) (by simp [cellAt]) _ (grownCap γ.w (0 + src.length) 0 (ty P t).elem) (by simpa using hge) hcm rfl
      refine ⟨.slice (some ⟨γ.w.heap.size, 0, none⟩) (0 + src.length) (grownCap γ.w (0 + src.length) 0 (ty P t).elem), γ1, ?_, e2, e3, e4, ?_⟩
      · rw [hr, e1]; simp
      · simpa using e5
  · by_cases hroom : pre.length + src.length ≤ cap'
    · -- in place
      have hmul : pre.length * sz + src.length * sz ≤ cap' * sz := by rw [← Nat.add_mul]; exact Nat.mul_le_mul_right _ hroom
      have hnl' : news.length = src.length * sz := by rw [hnl, hisz]
      have hr := run_append_room' (P := P) γ.w t oty _ i ht hi b (o + off * sz) pre.length cap' cur tt hheap ad src.length c news hnl hnews hnone hroom (by rw [hisz, hnl']; omega)
      have hob : ObNew σ.objs γ.w γ.Z γ.blk (o + off * sz) cap' (cur.toList.take (o + off * sz + pre.length * i.size) ++ news ++ cur.toList.drop (o + off * sz + pre.length * i.size + news.length)).toArray (.arr sz (pre ++ src)) := by
        refine ⟨h0, ?_, ?_, by simpa using hroom, hcm, ?_⟩
        · intro row hrow
          rcases List.mem_append.1 hrow with h | h
          · exact hpl row h
          · exact hsr row h
        · simp only [List.size_toArray, List.length_append, List.length_take, List.length_drop, Array.length_toList, hisz, hnl']
          omega
        · intro r c v hv
          rw [getD_splice cur _ news (by rw [hisz, hnl']; omega), hisz, hnl']
          rw [cellAt_append] at hv
          split at hv
          · obtain ⟨hr1, hc1⟩ := cellAt_lt hpl hv
            have := flat_lt hr1 hc1
            rw [if_neg (by omega)]
            exact hprel r c v hv
          · obtain ⟨hr1, hc1⟩ := cellAt_lt hsr hv
            have hl := flat_lt hr1 hc1
            have e : r * sz + c = pre.length * sz + ((r - pre.length) * sz + c) := by
              have : r = pre.length + (r - pre.length) := by omega
              conv => lhs; rw [this, Nat.add_mul]
              omega
            rw [if_pos (by omega)]
            have e2 : o + off * sz + (r * sz + c) - (o + off * sz + pre.length * sz) = (r - pre.length) * sz + c := by omega
            rw [e2]
            simp only [news, List.getD_eq_getElem?_getD]
            simp [hl]
            exact hsrel _ _ _ hv
      have hsim := h.reown ho (by simp) hb (setRow_heap γ.w b cur _ tt _ hheap) (fun k hk => setRow_other γ.w b k _ hk) (setRow_size _ _ _) hob
      have hfr := Fr.reown (γ := γ) (o' := o + off * sz) (cap' := cap') (.arr sz (pre ++ src)) ho (by simp) hb (w' := γ.w.setRow b (cur.toList.take (o + off * sz + pre.length * i.size) ++ news ++ cur.toList.drop (o + off * sz + pre.length * i.size + news.length)).toArray) (fun k hk => setRow_other γ.w b k _ hk) (setRow_size _ _ _) rfl rfl rfl
      refine ⟨_, { γ with w := γ.w.setRow b (cur.toList.take (o + off * sz + pre.length * i.size) ++ news ++ cur.toList.drop (o + off * sz + pre.length * i.size + news.length)).toArray, blk := updB γ.blk σ.objs.length (some (b, o + off * sz, cap')) }, hr, rfl, ?_, ?_, ?_⟩
      · simpa using hsim
      · simpa using hfr
      · have := RelV.ref (os := σ.objs.set id .gone ++ [.arr sz (pre ++ src)]) (w := γ.w.setRow b (cur.toList.take (o + off * sz + pre.length * i.size) ++ news ++ cur.toList.drop (o + off * sz + pre.length * i.size + news.length)).toArray) (Z := γ.Z)
          (blk := updB γ.blk σ.objs.length (some (b, o + off * sz, cap'))) σ.objs.length sz 0 (pre.length + src.length) b (o + off * sz) cap' cap' (pre ++ src)
          (by rw [List.getElem?_append_right (by simp)]; simp) (by simp [updB]) (by simp) (by omega) hroom
        simpa using this
    · -- a new array
      let go : Nat → Value := fun j => cur.getD (o + off * sz + j) Go.undef
      let olds := (List.range (pre.length * sz)).map go
      have hol : olds.length = pre.length * i.size := by simp [olds, hisz]
      have hpc' : pre.length * sz ≤ cap' * sz := Nat.mul_le_mul_right _ hpc
      have holds : ∀ j v, olds[j]? = some v → γ.w.cell? ((⟨b, o + off * sz, none⟩ : Addr).add j) = some v := by
        intro j v hj
        obtain ⟨hjl, rfl⟩ := getElem?_range_map hj
        rw [Addr.add_none]
        exact cell_getD hheap (by omega)
      have hp : 0 < src.length := by omega
      obtain ⟨a, rfl, hc⟩ := hnews hp
      have hr := run_append_grow (P := P) γ.w t oty _ i zv ht hi hzv ⟨b, o + off * sz, none⟩ pre.length cap' olds hol holds a src.length c news hnl hc (by omega) (by unfold maxLen at hmax; omega) (growslice_fits (by omega) hbb)
      have hge := grownCap_ge γ.w (pre.length + src.length) cap' (ty P t).elem
      have hcm' := grownCap_le_maxLen γ.w (pre.length + src.length) cap' (ty P t).elem hmax
      obtain ⟨γ1, e1, e2, e3, e4, e5⟩ := fresh 0 go hpl hprel _ (grownCap γ.w (pre.length + src.length) cap' (ty P t).elem) hge hcm' rfl
      refine ⟨_, γ1, ?_, e2, e3, e4, e5⟩
      rw [hr, e1]


/-- copy of one slice into another -/
theorem copy_sound {σ : St} {γ : Cx} (h : Sim σ γ) {t t' oty : TypeId} {sz : Nat} (hk : (ty P t).kind = 1) (hke : (ty P (ty P t).elem).kind ≠ 99)
    (hsz : sz = (ty P (ty P t).elem).size) (h0 : 0 < sz) {id off len : Nat} {x : AV} {cvS cvX : Value} (hS : RelV σ.objs γ.w γ.Z γ.blk (.ref id sz off len) cvS) (hX : RelV σ.objs γ.w γ.Z γ.blk x cvX)
    {rows : List (List AV)} (ho : σ.objs[id]? = some (.arr sz rows)) {src : List (List AV)} (hsrc : srcRows σ x = some (sz, src)) (hsc : (src.all fun row => row.all scal) = true) :
    ∃ w', (Builtin.copy_ #[t, t'] oty #[cvS, cvX]).run P γ.w = .ok (.int .i64 (min src.length len : Nat)) w' ∧
      Sim { σ with objs := σ.objs.set id (.arr sz (rows.take off ++ src.take (min src.length len) ++ rows.drop (off + min src.length len))) } { γ with w := w' } ∧
      Fr σ.objs γ (σ.objs.set id (.arr sz (rows.take off ++ src.take (min src.length len) ++ rows.drop (off + min src.length len)))) { γ with w := w' } := by
  obtain ⟨i, d, hi, hud, hsize, hbytes, hzero⟩ := ty_info hke
  have ht := ty_slice hk
  have hisz : i.size = sz := by rw [← hsize, ← hsz]
  obtain ⟨ad, c, g, rfl, hsr, hsa, hsrel⟩ := src_cells h hX h0 hsrc
  have hid : id < σ.objs.length := (List.getElem?_eq_some_iff.1 ho).1
  -- nothing to copy
  have zero : ∀ (ad' : Option Addr) (cap' : Nat), min src.length len = 0 → cvS = .slice ad' len cap' → ∃ w', (Builtin.copy_ #[t, t'] oty #[cvS, .slice ad src.length c]).run P γ.w = .ok (.int .i64 (min src.length len : Nat)) w' ∧
      Sim { σ with objs := σ.objs.set id (.arr sz (rows.take off ++ src.take (min src.length len) ++ rows.drop (off + min src.length len))) } { γ with w := w' } ∧
      Fr σ.objs γ (σ.objs.set id (.arr sz (rows.take off ++ src.take (min src.length len) ++ rows.drop (off + min src.length len)))) { γ with w := w' } := by
    intro ad' cap' hz hcv
    have hset : σ.objs.set id (.arr sz rows) = σ.objs := by
      apply List.ext_getElem?
      intro j
      rw [List.getElem?_set]
      split
      · rename_i e; subst e; simp [ho]
      · rfl
    refine ⟨γ.w, ?_, ?_, ?_⟩
    · have hm : Nat.min src.length len = 0 := hz
      subst hcv
      cases ad <;> cases ad' <;> simp [Builtin.copy_, run_underlying ht, sizeOf, typeInfo, hi, Builtin.lenOf, Builtin.firstCells, loadCells, loadCellsFrom, storeCells, hm, goInt, hz]
    · rw [hz]; simp [hset]; exact h
    · rw [hz]; simp [hset]; exact Fr.refl _ _
  cases hS with
  | frz _ _ h => cases h
  | deadRef _ _ _ _ _ h => rw [ho] at h; simp at h
  | refNil _ _ h hb => exact zero none 0 (by simp) rfl
  | refEnd _ _ _ b x bo rows' h hb hl => exact zero _ 0 (by simp) rfl
  | ref _ _ _ _ b o cap cap' rows' h' hb hl hc hlc =>
    rw [ho] at h'; simp at h'
    subst h'
    rcases Nat.eq_zero_or_pos (min src.length len) with hz | hp
    · exact zero _ _ hz rfl
    obtain ⟨_, hrl, hob⟩ := h.obs id _ ho
    rcases hob with ⟨h1, _⟩ | ⟨b', o', cap'', cur, tt, h1, h2, h3, h4, h5, h6⟩
    · rw [hb] at h1; simp at h1
    rw [hb] at h1; simp at h1
    obtain ⟨rfl, rfl, rfl⟩ := h1
    generalize hn : min src.length len = n at *
    have hn1 : n ≤ src.length := by omega
    have hn2 : n ≤ len := by omega
    let news := (List.range (n * sz)).map g
    have hnl : news.length = n * sz := by simp [news]
    have hone : ∀ u ∈ news, u.oneCell' = true := by
      intro u hu
      obtain ⟨j, hj⟩ := List.mem_iff_getElem?.1 hu
      obtain ⟨hjl, rfl⟩ := getElem?_range_map hj
      have k1 : j / sz < n := Nat.div_lt_of_lt_mul (by rw [Nat.mul_comm]; exact hjl)
      have k2 : j % sz < sz := Nat.mod_lt _ h0
      have k3 : j / sz < src.length := by omega
      have hrl : (src[j / sz]).length = sz := hsr _ (List.getElem_mem k3)
      have := hsrel (j / sz) (j % sz) ((src[j / sz])[j % sz]'(by omega)) (by simp [cellAt, k3, k2, hrl])
      have e : j / sz * sz + j % sz = j := by rw [Nat.mul_comm]; exact Nat.div_add_mod j sz
      rw [e] at this
      refine scal_one this ?_
      rw [List.all_eq_true] at hsc
      have := hsc _ (List.getElem_mem k3)
      rw [List.all_eq_true] at this
      exact this _ (List.getElem_mem _)
    obtain ⟨sb, so, rfl, hcell⟩ := hsa (by omega)
    have hle : n * sz ≤ src.length * sz := Nat.mul_le_mul_right _ hn1
    have hld := run_loadCells_list (P := P) γ.w ⟨sb, so, none⟩ news (fun j v hj => by
      obtain ⟨hjl, rfl⟩ := getElem?_range_map hj
      rw [Addr.add_none]
      exact hcell j (by omega))
    have hfit : (off + n) * sz ≤ cap * sz := Nat.mul_le_mul_right _ (by omega)
    rw [Nat.add_mul] at hfit
    have hst := run_storeCells_at P b (o + off * sz) tt news 0 cur γ.w h2 (by rw [hnl]; omega) hone
    simp only [Nat.add_zero] at hst
    have hrun : (Builtin.copy_ #[t, t'] oty #[.slice (some ⟨b, o + off * sz, none⟩) len cap', .slice (some ⟨sb, so, none⟩) src.length c]).run P γ.w = .ok (.int .i64 (n : Nat)) (γ.w.setRow b (cur.toList.take (o + off * sz) ++ news ++ cur.toList.drop (o + off * sz + news.length)).toArray) := by
      have hm : Nat.min src.length len = n := hn
      rw [hnl] at hld
      simp [Builtin.copy_, run_underlying ht, sizeOf, typeInfo, hi, Builtin.lenOf, Builtin.firstCells, hm, hisz, hld, hst, goInt]
    have hobn : ObNew σ.objs γ.w γ.Z γ.blk o cap (cur.toList.take (o + off * sz) ++ news ++ cur.toList.drop (o + off * sz + news.length)).toArray (.arr sz (rows.take off ++ src.take n ++ rows.drop (off + n))) := by
      refine ⟨h0, ?_, ?_, ?_, h5, ?_⟩
      · intro row hrow
        simp only [List.mem_append] at hrow
        rcases hrow with (hr | hr) | hr
        · exact hrl row (List.mem_of_mem_take hr)
        · exact hsr row (List.mem_of_mem_take hr)
        · exact hrl row (List.mem_of_mem_drop hr)
      · simp only [List.size_toArray, List.length_append, List.length_take, List.length_drop, Array.length_toList, hnl]
        omega
      · simp; omega
      · intro r cc v hv
        rw [getD_splice cur _ news (by rw [hnl]; omega), hnl]
        have hlt : cc < sz := by
          simp only [cellAt, Option.bind_eq_some_iff] at hv
          obtain ⟨y, hy, hyc⟩ := hv
          have hm := List.mem_of_getElem? hy
          have := (List.getElem?_eq_some_iff.1 hyc).1
          simp only [List.mem_append] at hm
          rcases hm with (hr | hr) | hr
          · have := hrl y (List.mem_of_mem_take hr); omega
          · have := hsr y (List.mem_of_mem_take hr); omega
          · have := hrl y (List.mem_of_mem_drop hr); omega
        rcases Nat.lt_or_ge r off with k1 | k1
        · have e : cellAt (rows.take off ++ src.take n ++ rows.drop (off + n)) r cc = cellAt rows r cc := by
            simp only [cellAt, List.append_assoc]
            rw [List.getElem?_append_left (by simp; omega), List.getElem?_take, if_pos k1]
          rw [e] at hv
          have hm : (r + 1) * sz ≤ off * sz := Nat.mul_le_mul_right _ (by omega)
          rw [Nat.add_mul] at hm
          rw [if_neg (by omega)]
          exact h6 r cc v hv
        · rcases Nat.lt_or_ge r (off + n) with k2 | k2
          · have e : cellAt (rows.take off ++ src.take n ++ rows.drop (off + n)) r cc = cellAt src (r - off) cc := by
              simp only [cellAt, List.append_assoc]
              rw [List.getElem?_append_right (by simp; omega), List.getElem?_append_left (by simp; omega), List.getElem?_take, if_pos (by simp; omega)]
              congr 2; simp; omega
            rw [e] at hv
            have e1 : r = off + (r - off) := by omega
            have e2 : r * sz = off * sz + (r - off) * sz := by rw [← Nat.add_mul, ← e1]
            have hm : (r - off + 1) * sz ≤ n * sz := Nat.mul_le_mul_right _ (by omega)
            rw [Nat.add_mul] at hm
            rw [if_pos (by omega)]
            have e3 : o + (r * sz + cc) - (o + off * sz) = (r - off) * sz + cc := by omega
            rw [e3]
            have hl : (r - off) * sz + cc < n * sz := by omega
            simp only [news, List.getD_eq_getElem?_getD]
            simp [hl]
            exact hsrel _ _ _ hv
          · have e : cellAt (rows.take off ++ src.take n ++ rows.drop (off + n)) r cc = cellAt rows r cc := by
              simp only [cellAt]
              rw [List.getElem?_append_right (by simp; omega), List.getElem?_drop]
              congr 2; simp; omega
            rw [e] at hv
            have hm : (off + n) * sz ≤ r * sz := Nat.mul_le_mul_right _ k2
            rw [Nat.add_mul] at hm
            rw [if_neg (by omega)]
            exact h6 r cc v hv
    refine ⟨_, hrun, ?_, ?_⟩
    · exact h.write ho (by simp) (by simp [Ob.like]; omega) hb (setRow_heap γ.w b cur _ tt _ h2) (fun k hk => setRow_other γ.w b k _ hk) (setRow_size _ _ _) hobn
    · exact Fr.write _ ho (by simp) (by simp [Ob.like]; omega) hb (fun k hk => setRow_other γ.w b k _ hk) (setRow_size _ _ _) rfl rfl rfl

/-- a slice is set to zero -/
theorem clear_sound {σ : St} {γ : Cx} (h : Sim σ γ) {t oty : TypeId} {sz : Nat} {z : List Value} (hk : (ty P t).kind = 1) (hke : (ty P (ty P t).elem).kind ≠ 99)
    (hzl : z.length = sz) (h0 : 0 < sz) (hz : (ty P (ty P t).elem).zero = some z) (hz1 : (z.all fun u => u.oneCell') = true) {id off len : Nat} {cvS : Value} (hS : RelV σ.objs γ.w γ.Z γ.blk (.ref id sz off len) cvS)
    {rows : List (List AV)} (ho : σ.objs[id]? = some (.arr sz rows)) :
    ∃ w', (Builtin.clear_ #[t] oty #[cvS]).run P γ.w = .ok (.tuple #[]) w' ∧
      Sim { σ with objs := σ.objs.set id (.arr sz (rows.take off ++ List.replicate len (z.map AV.lit) ++ rows.drop (off + len))) } { γ with w := w' } ∧
      Fr σ.objs γ (σ.objs.set id (.arr sz (rows.take off ++ List.replicate len (z.map AV.lit) ++ rows.drop (off + len)))) { γ with w := w' } := by
  obtain ⟨i, d, hi, hud, hsize, hbytes, hzero⟩ := ty_info hke
  have ht := ty_slice hk
  rw [hz] at hzero
  obtain ⟨zv, hzv, hzc⟩ := Option.map_eq_some_iff.1 hzero.symm
  have hzsz : zv.cells.size = sz := by rw [← hzl, ← hzc]; simp
  have hid : id < σ.objs.length := (List.getElem?_eq_some_iff.1 ho).1
  -- nothing to clear
  have zero : ∀ (ad' : Option Addr) (cap' : Nat), len = 0 → cvS = .slice ad' len cap' → ∃ w', (Builtin.clear_ #[t] oty #[cvS]).run P γ.w = .ok (.tuple #[]) w' ∧
      Sim { σ with objs := σ.objs.set id (.arr sz (rows.take off ++ List.replicate len (z.map AV.lit) ++ rows.drop (off + len))) } { γ with w := w' } ∧
      Fr σ.objs γ (σ.objs.set id (.arr sz (rows.take off ++ List.replicate len (z.map AV.lit) ++ rows.drop (off + len)))) { γ with w := w' } := by
    intro ad' cap' hz0 hcv
    have hset : σ.objs.set id (.arr sz rows) = σ.objs := by
      apply List.ext_getElem?
      intro j
      rw [List.getElem?_set]
      split
      · rename_i e; subst e; simp [ho]
      · rfl
    refine ⟨γ.w, ?_, ?_, ?_⟩
    · subst hcv; subst hz0
      cases ad' <;> simp [Builtin.clear_, run_underlying ht]
    · subst hz0; simp [hset]; exact h
    · subst hz0; simp [hset]; exact Fr.refl _ _
  cases hS with
  | frz _ _ h => cases h
  | deadRef _ _ _ _ _ h => rw [ho] at h; simp at h
  | refNil _ _ h hb => exact zero none 0 rfl rfl
  | refEnd _ _ _ b x bo rows' h hb hl => exact zero _ 0 rfl rfl
  | ref _ _ _ _ b o cap cap' rows' h' hb hl hc hlc =>
    rw [ho] at h'; simp at h'
    subst h'
    rcases Nat.eq_zero_or_pos len with hz0 | hp
    · exact zero _ _ hz0 rfl
    obtain ⟨_, hrl, hob⟩ := h.obs id _ ho
    rcases hob with ⟨h1, _⟩ | ⟨b', o', cap'', cur, tt, h1, h2, h3, h4, h5, h6⟩
    · rw [hb] at h1; simp at h1
    rw [hb] at h1; simp at h1
    obtain ⟨rfl, rfl, rfl⟩ := h1
    let g : Nat → Value := fun i => zv.cells[i % zv.cells.size]!
    let news := (List.range (len * sz)).map g
    have hnews : (Builtin.zeroCells zv.cells len).toList = news := by
      simp [Builtin.zeroCells, news, g, hzsz]
    have hnl : news.length = len * sz := by simp [news]
    have hgz : ∀ i, i < sz → ∃ u, z[i]? = some u ∧ zv.cells[i]! = u := by
      intro i hi'
      have : i < zv.cells.size := by omega
      refine ⟨zv.cells[i], ?_, ?_⟩
      · rw [← hzc]; simp [this]
      · simp [this]
    have hone : ∀ u ∈ news, u.oneCell' = true := by
      intro u hu
      obtain ⟨j, hj⟩ := List.mem_iff_getElem?.1 hu
      obtain ⟨hjl, rfl⟩ := getElem?_range_map hj
      obtain ⟨u, k1, k2⟩ := hgz (j % sz) (Nat.mod_lt _ h0)
      show (zv.cells[j % zv.cells.size]!).oneCell' = true
      rw [hzsz, k2]
      rw [List.all_eq_true] at hz1
      exact hz1 _ (List.mem_of_getElem? k1)
    have hfit : (off + len) * sz ≤ cap * sz := Nat.mul_le_mul_right _ (by omega)
    rw [Nat.add_mul] at hfit
    have hst := run_storeCells_at P b (o + off * sz) tt news 0 cur γ.w h2 (by rw [hnl]; omega) hone
    simp only [Nat.add_zero] at hst
    have hrun : (Builtin.clear_ #[t] oty #[.slice (some ⟨b, o + off * sz, none⟩) len cap']).run P γ.w = .ok (.tuple #[]) (γ.w.setRow b (cur.toList.take (o + off * sz) ++ news ++ cur.toList.drop (o + off * sz + news.length)).toArray) := by
      obtain ⟨len', rfl⟩ : ∃ k, len = k + 1 := ⟨len - 1, by omega⟩
      simp [Builtin.clear_, run_underlying ht, zeroValue, typeInfo, hi, hzv, hnews, hst]
    have hobn : ObNew σ.objs γ.w γ.Z γ.blk o cap (cur.toList.take (o + off * sz) ++ news ++ cur.toList.drop (o + off * sz + news.length)).toArray (.arr sz (rows.take off ++ List.replicate len (z.map AV.lit) ++ rows.drop (off + len))) := by
      refine ⟨h0, ?_, ?_, ?_, h5, ?_⟩
      · intro row hrow
        simp only [List.mem_append] at hrow
        rcases hrow with (hr | hr) | hr
        · exact hrl row (List.mem_of_mem_take hr)
        · rw [List.eq_of_mem_replicate hr, List.length_map]; exact hzl
        · exact hrl row (List.mem_of_mem_drop hr)
      · simp only [List.size_toArray, List.length_append, List.length_take, List.length_drop, Array.length_toList, hnl]
        omega
      · simp; omega
      · intro r cc v hv
        rw [getD_splice cur _ news (by rw [hnl]; omega), hnl]
        have hlt : cc < sz := by
          simp only [cellAt, Option.bind_eq_some_iff] at hv
          obtain ⟨y, hy, hyc⟩ := hv
          have hm := List.mem_of_getElem? hy
          have := (List.getElem?_eq_some_iff.1 hyc).1
          simp only [List.mem_append] at hm
          rcases hm with (hr | hr) | hr
          · have := hrl y (List.mem_of_mem_take hr); omega
          · have hy2 := List.eq_of_mem_replicate hr
            rw [hy2, List.length_map] at this; omega
          · have := hrl y (List.mem_of_mem_drop hr); omega
        rcases Nat.lt_or_ge r off with k1 | k1
        · have e : cellAt (rows.take off ++ List.replicate len (z.map AV.lit) ++ rows.drop (off + len)) r cc = cellAt rows r cc := by
            simp only [cellAt, List.append_assoc]
            rw [List.getElem?_append_left (by simp; omega), List.getElem?_take, if_pos k1]
          rw [e] at hv
          have hm : (r + 1) * sz ≤ off * sz := Nat.mul_le_mul_right _ (by omega)
          rw [Nat.add_mul] at hm
          rw [if_neg (by omega)]
          exact h6 r cc v hv
        · rcases Nat.lt_or_ge r (off + len) with k2 | k2
          · have e : cellAt (rows.take off ++ List.replicate len (z.map AV.lit) ++ rows.drop (off + len)) r cc = (z.map AV.lit)[cc]? := by
              simp only [cellAt, List.append_assoc]
              rw [List.getElem?_append_right (by simp; omega), List.getElem?_append_left (by simp; omega), List.getElem?_replicate, if_pos (by simp; omega)]
              rfl
            rw [e, List.getElem?_map] at hv
            obtain ⟨u, k3, k4⟩ := hgz cc hlt
            rw [k3] at hv
            simp only [Option.map_some, Option.some.injEq] at hv
            subst hv
            have e1 : r = off + (r - off) := by omega
            have e2 : r * sz = off * sz + (r - off) * sz := by rw [← Nat.add_mul, ← e1]
            have hm : (r - off + 1) * sz ≤ len * sz := Nat.mul_le_mul_right _ (by omega)
            rw [Nat.add_mul] at hm
            rw [if_pos (by omega)]
            have e3 : o + (r * sz + cc) - (o + off * sz) = (r - off) * sz + cc := by omega
            rw [e3]
            have hl : (r - off) * sz + cc < len * sz := by omega
            have e4 : news.getD ((r - off) * sz + cc) Go.undef = u := by
              simp only [news, List.getD_eq_getElem?_getD]
              rw [List.getElem?_map, List.getElem?_range hl]
              show zv.cells[((r - off) * sz + cc) % zv.cells.size]! = u
              rw [hzsz, Nat.mul_comm, Nat.mul_add_mod, Nat.mod_eq_of_lt hlt, k4]
            first
              | (rw [e4]; exact .lit _)
              | (simp only [List.getD_eq_getElem?_getD] at e4 ⊢; rw [e4]; exact .lit _)
          · have e : cellAt (rows.take off ++ List.replicate len (z.map AV.lit) ++ rows.drop (off + len)) r cc = cellAt rows r cc := by
              simp only [cellAt]
              rw [List.getElem?_append_right (by simp; omega), List.getElem?_drop]
              congr 2; simp; omega
            rw [e] at hv
            have hm : (off + len) * sz ≤ r * sz := Nat.mul_le_mul_right _ k2
            rw [Nat.add_mul] at hm
            rw [if_neg (by omega)]
            exact h6 r cc v hv
    refine ⟨_, hrun, ?_, ?_⟩
    · exact h.write ho (by simp) (by simp [Ob.like]; omega) hb (setRow_heap γ.w b cur _ tt _ h2) (fun k hk => setRow_other γ.w b k _ hk) (setRow_size _ _ _) hobn
    · exact Fr.write _ ho (by simp) (by simp [Ob.like]; omega) hb (fun k hk => setRow_other γ.w b k _ hk) (setRow_size _ _ _) rfl rfl rfl

end Go.Am
end
section
namespace Go.Am
variable {P : Program}

theorem foldl_put (l : List Value) : ∀ (j off : Nat) (cells : Array Value), off + j + l.length ≤ cells.size →
    ((l.zipIdx j).foldl (fun cs (x : Value × Nat) => cs.setIfInBounds (off + x.2) x.1) cells).size = cells.size ∧
    ∀ k, ((l.zipIdx j).foldl (fun cs (x : Value × Nat) => cs.setIfInBounds (off + x.2) x.1) cells).getD k Go.undef = if off + j ≤ k ∧ k < off + j + l.length then l.getD (k - (off + j)) Go.undef else cells.getD k Go.undef := by
  induction l with
  | nil => intro j off cells _; simp; intro k h1 h2; omega
  | cons v l ih =>
    intro j off cells hl
    simp only [List.length_cons] at hl
    simp only [List.zipIdx_cons, List.foldl_cons]
    obtain ⟨h1, h2⟩ := ih (j + 1) off (cells.setIfInBounds (off + j) v) (by simp; omega)
    refine ⟨by rw [h1]; simp, fun k => ?_⟩
    rw [h2 k]
    simp only [List.length_cons]
    by_cases c1 : off + (j + 1) ≤ k ∧ k < off + (j + 1) + l.length
    · rw [if_pos c1, if_pos (by omega)]
      have : k - (off + j) = (k - (off + (j + 1))) + 1 := by omega
      rw [this]; simp
    · rw [if_neg c1]
      by_cases c2 : k = off + j
      · subst c2
        rw [if_pos (by omega)]
        simp [Array.getD_eq_getD_getElem?, show off + j < cells.size by omega]
      · rw [if_neg (by omega)]
        simp [Array.getD_eq_getD_getElem?, Array.getElem?_setIfInBounds_ne (Ne.symm c2)]

theorem fill_foldl (v : Value) (off : Nat) (cells : Array Value) :
    (v.cells.zipIdx.foldl (fun cs (c, j) => cs.setIfInBounds (off + j) c) cells) = ((v.cells.toList.zipIdx 0).foldl (fun cs (x : Value × Nat) => cs.setIfInBounds (off + x.2) x.1) cells) := by
  rw [← Array.foldl_toList]
  simp

/-- lists of cells that stand for one another -/
def CellsR (R : AV → Value → Prop) (cs : List AV) (cur : Array Value) : Prop := cur.size = cs.length ∧ ∀ j x, cs[j]? = some x → R x (cur.getD j Go.undef)

theorem fill_rel {σ : St} {γ : Cx} {place : Nat → Option (Nat × Nat)} : ∀ (parts : List (Nat × AV)) (pv : List (Nat × Value)) (cs : List AV) (cur : Array Value) (cs' : List AV),
    parts.length = pv.length → (∀ (j : Nat) (p : Nat × AV) (q : Nat × Value), parts[j]? = some p → pv[j]? = some q → p.1 = q.1 ∧ RelV σ.objs γ.w γ.Z γ.blk p.2 q.2) → (∀ p ∈ parts, (cellsOf p.2).all scal = true) →
    CellsR (RelV σ.objs γ.w γ.Z γ.blk) cs cur → fillA place cs parts = some cs' → ∃ cur', Instr.fill place cur pv = some cur' ∧ CellsR (RelV σ.objs γ.w γ.Z γ.blk) cs' cur'
  | [], pv, cs, cur, cs', hl, _, _, hc, h => by
    have : pv = [] := List.eq_nil_of_length_eq_zero hl.symm
    subst this
    simp [fillA] at h
    subst h
    exact ⟨cur, by simp [Instr.fill], hc⟩
  | (i, v) :: rest, [], cs, cur, cs', hl, _, _, _, _ => by simp at hl
  | (i, v) :: rest, (i', x) :: pv, cs, cur, cs', hl, hr, hs, hc, h => by
    obtain ⟨e1, e2⟩ := hr 0 (i, v) (i', x) rfl rfl
    simp only at e1 e2
    subst e1
    simp only [fillA] at h
    cases hp : place i with
    | none => simp [hp] at h
    | some os =>
      obtain ⟨off, size⟩ := os
      simp only [hp] at h
      split at h
      · rename_i hcond
        obtain ⟨h1, h2⟩ := hcond
        obtain ⟨g1, g2, g3⟩ := cells_rel e2 (hs (i, v) (by simp))
        have hsz : x.cells.size = size := by rw [g1, h1]
        obtain ⟨hcs, hcr⟩ := hc
        have hfit : off + 0 + x.cells.toList.length ≤ cur.size := by simp [hsz, hcs]; omega
        obtain ⟨f1, f2⟩ := foldl_put x.cells.toList 0 off cur hfit
        have hnew : CellsR (RelV σ.objs γ.w γ.Z γ.blk) (setCells cs off (cellsOf v)) (x.cells.zipIdx.foldl (fun cs (c, j) => cs.setIfInBounds (off + j) c) cur) := by
          rw [fill_foldl]
          refine ⟨by rw [f1, setCells_length]; exact hcs, fun j y hj => ?_⟩
          rw [setCells_get _ _ _ (by rw [h1]; exact h2)] at hj
          rw [f2 j]
          simp only [Nat.add_zero, Array.length_toList, hsz]
          rw [h1] at hj
          by_cases hin : off ≤ j ∧ j < off + size
          · rw [if_pos hin] at hj
            rw [if_pos hin]
            have := g2 _ _ hj
            simpa [List.getD_eq_getElem?_getD, Array.getD_eq_getD_getElem?] using this
          · rw [if_neg hin] at hj
            rw [if_neg hin]
            exact hcr j y hj
        obtain ⟨cur', k1, k2⟩ := fill_rel rest pv _ _ cs' (by simpa using hl) (fun j p q hp hq => hr (j + 1) p q (by simpa using hp) (by simpa using hq)) (fun p hp => hs p (by simp [hp])) hnew h
        refine ⟨cur', ?_, k2⟩
        simp only [Instr.fill, hp]
        rw [if_neg ?_]
        · exact k1
        · simp [hsz, hcs]; omega
      · simp at h

theorem lits_rel {os : List Ob} {w : World} {Z : Nat → Prop} {blk : Blk} (z : List Value) : CellsR (RelV os w Z blk) (z.map .lit) z.toArray := by
  refine ⟨by simp, fun j x hx => ?_⟩
  simp only [List.getElem?_map] at hx
  cases hj : z[j]? with
  | none => simp [hj] at hx
  | some y =>
    simp [hj] at hx
    subst hx
    simp [Array.getD_eq_getD_getElem?, hj]
    exact .lit y

theorem parts_rel {σ : St} {γ : Cx} (h : Sim σ γ) {a : Act} (ha : γ.tmps = a.tmps) (parts : Array (Nat × Operand)) :
    (parts.toList.map fun p => (p.1, ev σ p.2)).length = (parts.map fun (i, x) => (i, a.eval x)).toList.length ∧
    ∀ (j : Nat) (p : Nat × AV) (q : Nat × Value), (parts.toList.map fun p => (p.1, ev σ p.2))[j]? = some p → (parts.map fun (i, x) => (i, a.eval x)).toList[j]? = some q → p.1 = q.1 ∧ RelV σ.objs γ.w γ.Z γ.blk p.2 q.2 := by
  refine ⟨by simp, fun j p q hp hq => ?_⟩
  simp only [Array.toList_map, List.getElem?_map] at hp hq
  cases hj : parts.toList[j]? with
  | none => simp [hj] at hp
  | some y =>
    simp only [hj, Option.map_some, Option.some.injEq] at hp hq
    subst hp
    subst hq
    exact ⟨rfl, ev_rel h ha y.2⟩

theorem build_sound {σ : St} {γ : Cx} (h : Sim σ γ) {a : Act} (ha : γ.tmps = a.tmps) {t : TypeId} {parts : Array (Nat × Operand)} {z : List Value} (hk : (ty P t).kind = 3) (hz : (ty P t).zero = some z) {cs : List AV}
    (hf : fillA (fun i => ((ty P t).flds[i]?).map fun f => (f.1, f.2.2)) (z.map .lit) (parts.toList.map fun p => (p.1, ev σ p.2)) = some cs)
    (hs : (parts.toList.all fun p => (cellsOf (ev σ p.2)).all scal) = true) (hp : ((ty P t).flds.all fun f => decide (0 < f.2.2)) = true) :
    ∃ cur, (Instr.build t (parts.map fun (i, x) => (i, a.eval x))).run P γ.w = .ok (.agg cur) γ.w ∧ RelV σ.objs γ.w γ.Z γ.blk (.agg cs) (.agg cur) := by
  obtain ⟨it, d, hi, hd, _, _, hzero⟩ := ty_info (P := P) (t := t) (by rw [hk]; simp)
  obtain ⟨fs, hu, hfl⟩ := ty_struct hk
  rw [hzero] at hz
  cases hv : it.zero with
  | none => simp [hv] at hz
  | some zv =>
    simp [hv] at hz
    have hzc : z.toArray = zv.cells := by rw [← hz]
    obtain ⟨hl, hr⟩ := parts_rel h ha parts
    obtain ⟨cur, h1, h2⟩ := fill_rel (σ := σ) (γ := γ) _ _ _ _ cs hl hr (fun p hp => by
      simp only [List.mem_map] at hp
      obtain ⟨q, hq, rfl⟩ := hp
      rw [List.all_eq_true] at hs
      exact hs q hq) (lits_rel z) hf
    refine ⟨cur, run_build γ.w t _ cur ?_, .agg _ _ h2.1 h2.2⟩
    unfold Program.built
    rw [hi, hu]
    simp only [hv]
    have hplaces : ∀ (l : List Field), (∀ f ∈ l, 0 < sizeT P f.type) → l.mapM (fun f => (P.info? f.type).map fun i => (f.offset, i.size)) = some (l.map fun f => (f.offset, sizeT P f.type)) := by
      intro l
      induction l with
      | nil => intro _; simp
      | cons f l ih =>
        intro hl
        have h0 := hl f (by simp)
        unfold sizeT at h0
        cases hfi : P.info? f.type with
        | none => simp [hfi] at h0
        | some i =>
          simp only [List.mapM_cons, hfi, Option.map_some, ih (fun g hg => hl g (by simp [hg]))]
          simp [sizeT, hfi]
    rw [hplaces fs.toList (by
      intro f hf'
      rw [hfl] at hp
      simp only [List.all_map, List.all_eq_true] at hp
      have := hp f hf'
      simpa using this)]
    simp only
    rw [← hzc]
    have : (fun (x : Nat) => ((fs.toList.map fun f => (f.offset, sizeT P f.type)).toArray[x]?)) = (fun (i : Nat) => ((ty P t).flds[i]?).map fun (f : Nat × Nat × Nat) => (f.1, f.2.2)) := by
      funext i
      rw [hfl]
      simp
      cases fs[i]? <;> simp
    rw [this]
    exact h1

theorem build_soundA {σ : St} {γ : Cx} (h : Sim σ γ) {a : Act} (ha : γ.tmps = a.tmps) {t : TypeId} {parts : Array (Nat × Operand)} {z : List Value} (hk : (ty P t).kind = 2) (hz : (ty P t).zero = some z) {cs : List AV}
    (hf : fillA (fun i => some (i * (ty P (ty P t).elem).size, (ty P (ty P t).elem).size)) (z.map .lit) (parts.toList.map fun p => (p.1, ev σ p.2)) = some cs)
    (hs : (parts.toList.all fun p => (cellsOf (ev σ p.2)).all scal) = true) (hke : (ty P (ty P t).elem).kind ≠ 99) :
    ∃ cur, (Instr.build t (parts.map fun (i, x) => (i, a.eval x))).run P γ.w = .ok (.agg cur) γ.w ∧ RelV σ.objs γ.w γ.Z γ.blk (.agg cs) (.agg cur) := by
  obtain ⟨it, d, hi, hd, _, _, hzero⟩ := ty_info (P := P) (t := t) (by rw [hk]; simp)
  have hu := ty_array hk
  obtain ⟨ie, de, hie, _, hsize, _, _⟩ := ty_info hke
  rw [hzero] at hz
  cases hv : it.zero with
  | none => simp [hv] at hz
  | some zv =>
    simp [hv] at hz
    have hzc : z.toArray = zv.cells := by rw [← hz]
    obtain ⟨hl, hr⟩ := parts_rel h ha parts
    obtain ⟨cur, h1, h2⟩ := fill_rel (σ := σ) (γ := γ) _ _ _ _ cs hl hr (fun p hp => by
      simp only [List.mem_map] at hp
      obtain ⟨q, hq, rfl⟩ := hp
      rw [List.all_eq_true] at hs
      exact hs q hq) (lits_rel z) hf
    refine ⟨cur, run_build γ.w t _ cur ?_, .agg _ _ h2.1 h2.2⟩
    unfold Program.built
    rw [hi, hu]
    simp only [hv, hie]
    rw [← hzc, ← hsize]
    exact h1

theorem toRows_length (sz : Nat) : ∀ (n : Nat) (cs : List AV), (toRows sz n cs).length = n
  | 0, _ => rfl
  | n + 1, cs => by simp [toRows, toRows_length sz n]

theorem toRows_rows (sz : Nat) : ∀ (n : Nat) (cs : List AV), n * sz ≤ cs.length → ∀ row ∈ toRows sz n cs, row.length = sz
  | 0, _, _, row, h => by simp [toRows] at h
  | n + 1, cs, hl, row, h => by
    rw [Nat.add_mul] at hl
    simp only [toRows, List.mem_cons] at h
    rcases h with rfl | h
    · simp; omega
    · exact toRows_rows sz n (cs.drop sz) (by simp; omega) row h

theorem toRows_cell (sz : Nat) : ∀ (n : Nat) (cs : List AV) (r c : Nat) (v : AV), cellAt (toRows sz n cs) r c = some v → cs[r * sz + c]? = some v
  | 0, _, r, c, v, h => by simp [toRows, cellAt] at h
  | n + 1, cs, 0, c, v, h => by
    simp only [toRows, cellAt, List.getElem?_cons_zero, Option.bind_some, List.getElem?_take] at h
    split at h
    · simpa using h
    · simp at h
  | n + 1, cs, r + 1, c, v, h => by
    have h' : cellAt (toRows sz n (cs.drop sz)) r c = some v := by simpa [toRows, cellAt] using h
    have := toRows_cell sz n (cs.drop sz) r c v h'
    rw [List.getElem?_drop] at this
    rw [Nat.add_mul]
    have e : r * sz + 1 * sz + c = sz + (r * sz + c) := by omega
    rw [e]
    exact this

theorem zeros_rel {os : List Ob} {w : World} {Z : Nat → Prop} {blk : Blk} (z : List Value) (n m : Nat) (hm : m = n * z.length) (hz : 0 < z.length) :
    CellsR (RelV os w Z blk) ((List.range n).flatMap fun _ => z.map .lit) ((Array.range m).map (z.toArray[· % z.toArray.size]!)) := by
  subst hm
  have hlen : ((List.range n).flatMap fun _ => z.map AV.lit).length = n * z.length := by
    induction n with
    | zero => simp
    | succ n ih => rw [List.range_succ, List.flatMap_append, List.length_append, ih]; simp [Nat.add_mul]
  refine ⟨by simp [hlen], fun j x hx => ?_⟩
  have hj : j < n * z.length := by rw [← hlen]; exact (List.getElem?_eq_some_iff.1 hx).1
  have key : ∀ (n j : Nat), j < n * z.length → ((List.range n).flatMap fun _ => z.map AV.lit)[j]? = some (.lit (z[j % z.length]'(Nat.mod_lt _ hz))) := by
    intro n
    induction n with
    | zero => intro j hj; simp at hj
    | succ n ih =>
      intro j hj
      have hln : ((List.range n).flatMap fun _ => z.map AV.lit).length = n * z.length := by
        clear ih hj hx hlen
        induction n with
        | zero => simp
        | succ n ih => rw [List.range_succ, List.flatMap_append, List.length_append, ih]; simp [Nat.add_mul]
      rw [List.range_succ, List.flatMap_append]
      by_cases hjn : j < n * z.length
      · rw [List.getElem?_append_left (by rw [hln]; exact hjn)]
        exact ih j hjn
      · rw [List.getElem?_append_right (by rw [hln]; omega), hln]
        rw [Nat.add_mul] at hj
        have hlt : j - n * z.length < z.length := by omega
        have hmod : j % z.length = j - n * z.length := by
          have : j = (j - n * z.length) + n * z.length := by omega
          rw [this, Nat.add_mul_mod_self_right, Nat.mod_eq_of_lt hlt]
          omega
        simp [hlt, hmod]
  rw [key n j hj] at hx
  simp at hx
  subst hx
  have hm : j % z.length < z.length := Nat.mod_lt _ hz
  simp [Array.getD_eq_getD_getElem?, hj, hm]
  exact .lit _

end Go.Am
end
