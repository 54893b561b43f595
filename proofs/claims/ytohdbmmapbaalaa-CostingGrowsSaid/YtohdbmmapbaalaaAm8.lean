import Derived.Test.YtohdbmmapbaalaaAm7
namespace Go.Am
variable {P : Program}

theorem cellAt_lt {rows : List (List AV)} {sz r c : Nat} {v : AV} (hr : ∀ row ∈ rows, row.length = sz) (h : cellAt rows r c = some v) : r < rows.length ∧ c < sz := by
  simp only [cellAt, Option.bind_eq_some_iff] at h
  obtain ⟨y, hy, hyc⟩ := h
  have h1 := hr y (List.mem_of_getElem? hy)
  have h2 := (List.getElem?_eq_some_iff.1 hyc).1
  have h3 := (List.getElem?_eq_some_iff.1 hy).1
  omega

theorem cellAt_append {p s : List (List AV)} {r c : Nat} : cellAt (p ++ s) r c = if r < p.length then cellAt p r c else cellAt s (r - p.length) c := by
  unfold cellAt
  split
  · rw [List.getElem?_append_left (by assumption)]
  · rw [List.getElem?_append_right (by omega)]

theorem flat_lt {r c n sz : Nat} (hr : r < n) (hc : c < sz) : r * sz + c < n * sz := by
  have : (r + 1) * sz ≤ n * sz := Nat.mul_le_mul_right _ hr
  rw [Nat.add_mul] at this; omega

/-- the cells of two rows of rows, one behind the other -/
theorem two_cells {R : AV → Value → Prop} {p s : List (List AV)} {sz : Nat} (hp : ∀ row ∈ p, row.length = sz) (hs : ∀ row ∈ s, row.length = sz) {go g : Nat → Value}
    (h1 : ∀ r c v, cellAt p r c = some v → R v (go (r * sz + c))) (h2 : ∀ r c v, cellAt s r c = some v → R v (g (r * sz + c))) (rest : List Value)
    (r c : Nat) (v : AV) (h : cellAt (p ++ s) r c = some v) :
    R v (((((List.range (p.length * sz)).map go) ++ ((List.range (s.length * sz)).map g)) ++ rest).toArray.getD (r * sz + c) Go.undef) := by
  rw [cellAt_append] at h
  simp only [Array.getD_eq_getD_getElem?, List.getElem?_toArray]
  split at h
  · obtain ⟨hr, hc⟩ := cellAt_lt hp h
    have := flat_lt hr hc
    rw [List.append_assoc, List.getElem?_append_left (by simpa using this)]
    simp [this]
    exact h1 r c v h
  · rename_i hge
    obtain ⟨hr, hc⟩ := cellAt_lt hs h
    have hl := flat_lt hr hc
    have e : r * sz + c = p.length * sz + ((r - p.length) * sz + c) := by
      have : r = p.length + (r - p.length) := by omega
      conv => lhs; rw [this, Nat.add_mul]
      omega
    rw [List.getElem?_append_left (by simp; omega), List.getElem?_append_right (by simp; omega)]
    have e2 : r * sz + c - (List.map go (List.range (p.length * sz))).length = (r - p.length) * sz + c := by simp; omega
    rw [e2]
    simp [hl]
    exact h2 _ _ _ h

/-- the slice that is appended to -/
theorem dst_cells {σ : St} {γ : Cx} (h : Sim σ γ) {x : AV} {cv : Value} (hv : RelV σ.objs γ.w γ.Z γ.blk x cv) {sz : Nat} {pre : List (List AV)} {σ1 : St} (hs : dstRows σ sz x = some (pre, σ1)) :
    (Sim σ1 γ ∧ Fr σ.objs γ σ1.objs γ ∧ ∃ k, σ1.objs.length = k) ∧
    ((cv = .slice none 0 0 ∧ pre = []) ∨
     (∃ id b x bo cur t, cv = .slice (some ⟨b, x, none⟩) 0 0 ∧ pre = [] ∧ Live σ.objs id ∧ σ1 = { σ with objs := σ.objs.set id .gone } ∧ γ.blk id = some (b, bo) ∧ γ.w.heap[b]? = some (.cells cur t (0, 0))) ∨
     ∃ id off rows b o cap cap' cur t, σ.objs[id]? = some (.arr sz rows) ∧ σ1 = { σ with objs := σ.objs.set id .gone } ∧ γ.blk id = some (b, o, cap) ∧ γ.w.heap[b]? = some (.cells cur t (0, 0)) ∧
      cv = .slice (some ⟨b, o + off * sz, none⟩) pre.length cap' ∧ pre.length ≤ cap' ∧ cap' ≤ maxLen ∧ o + off * sz + cap' * sz ≤ cur.size ∧ (∀ row ∈ pre, row.length = sz) ∧
      ∀ r c v, cellAt pre r c = some v → RelV σ.objs γ.w γ.Z γ.blk v (cur.getD (o + off * sz + (r * sz + c)) Go.undef)) := by
  unfold dstRows at hs
  split at hs
  · simp at hs
    obtain ⟨rfl, rfl⟩ := hs
    exact ⟨⟨h, Fr.refl _ _, _, rfl⟩, .inl ⟨hv.lit_inv, rfl⟩⟩
  · rename_i id sz' off len
    cases ho : σ.objs[id]? with
    | none => simp [ho] at hs
    | some ob =>
      have hob := h.obs id ob ho
      cases ob with
      | gone => simp [ho] at hs
      | var cells => simp [ho] at hs
      | arr sz'' rows =>
        simp only [ho] at hs
        split at hs
        · rename_i he
          obtain ⟨he1, he2⟩ := he
          subst he1
          subst he2
          simp at hs
          obtain ⟨rfl, rfl⟩ := hs
          refine ⟨⟨h.kill id, Fr.kill _ _ _, _, rfl⟩, ?_⟩
          obtain ⟨_, hrl, hob⟩ := hob
          cases hv with
          | frz _ _ h => cases h
          | deadRef _ _ _ _ _ h => rw [ho] at h; simp at h
          | refNil _ _ h hb => left; exact ⟨rfl, by simp⟩
          | refEnd _ _ _ b x bo rows' h' hb hl =>
            right; left
            rcases hob with ⟨h1, _⟩ | ⟨b', o', cap'', cur, t, h1, h2, _⟩
            · rw [hb] at h1; simp at h1
            · rw [hb] at h1; simp at h1
              obtain ⟨rfl, _⟩ := h1
              exact ⟨id, b, x, bo, cur, t, rfl, by simp, ⟨_, ho, by simp⟩, rfl, hb, h2⟩
          | ref _ _ _ _ b o cap cap' rows' h' hb hl hc hlc =>
            rw [ho] at h'; simp at h'
            subst h'
            rcases hob with ⟨h1, _⟩ | ⟨b', o', cap'', cur, t, h1, h2, h3, h4, h5, h6⟩
            · rw [hb] at h1; simp at h1
            · rw [hb] at h1; simp at h1
              obtain ⟨rfl, rfl, rfl⟩ := h1
              right; right
              have hlen : ((rows.drop off).take len).length = len := by simp; omega
              refine ⟨id, off, rows, b, o, cap, cap', cur, t, ho, rfl, hb, h2, by rw [hlen], by omega, by omega, ?_, ?_, ?_⟩
              · have : (off + cap') * sz'' ≤ cap * sz'' := Nat.mul_le_mul_right _ hc
                rw [Nat.add_mul] at this; omega
              · intro row hrow
                exact hrl row (List.mem_of_mem_drop (List.mem_of_mem_take hrow))
              · intro r c v hcv
                simp only [cellAt, List.getElem?_take, List.getElem?_drop] at hcv
                split at hcv
                · have := h6 (off + r) c v hcv
                  rw [Nat.add_mul] at this
                  have e : o + (off * sz'' + r * sz'' + c) = o + off * sz'' + (r * sz'' + c) := by omega
                  rw [e] at this
                  exact this
                · simp at hcv
        · simp at hs
  · simp at hs

theorem run_append_room' (w : World) (t ty' e : TypeId) (i : TypeInfo) (ht : P.underlying t = some (.slice e)) (hi : P.info? e = some i)
    (g o sLen sCap : Nat) (cur : Array Value) (tt : TypeId) (hg : w.heap[g]? = some (.cells cur tt (0, 0)))
    (xa : Option Addr) (m c : Nat) (news : List Value) (hl : news.length = m * i.size) (hnews : 0 < m → ∃ a, xa = some a ∧ ∀ j u, news[j]? = some u → w.cell? (a.add j) = some u) (h1 : ∀ u ∈ news, u.oneCell' = true)
    (hroom : sLen + m ≤ sCap) (hfit : o + sLen * i.size + news.length ≤ cur.size) :
    (Builtin.append_ #[t, t] ty' #[.slice (some ⟨g, o, none⟩) sLen sCap, .slice xa m c]).run P w =
      .ok (.slice (some ⟨g, o, none⟩) (sLen + m) sCap) (w.setRow g (cur.toList.take (o + sLen * i.size) ++ news ++ cur.toList.drop (o + sLen * i.size + news.length)).toArray) := by
  have hf : (Builtin.firstCells i.size m (.slice xa m c)).run P w = .ok news.toArray w := by
    rcases Nat.eq_zero_or_pos m with h0 | hp
    · subst h0
      have hn : news = [] := List.eq_nil_of_length_eq_zero (by simpa using hl)
      subst hn
      cases xa <;> simp [Builtin.firstCells, loadCells, loadCellsFrom]
    · obtain ⟨a, rfl, hc⟩ := hnews hp
      exact run_firstCells_some w i.size m a m c news hl hc
  have hst := run_storeCells_at P g (o + sLen * i.size) tt news 0 cur w hg (by simpa using hfit) h1
  simp only [Nat.add_zero] at hst
  simp [Builtin.append_, run_underlying ht, sizeOf, typeInfo, hi, Builtin.lenOf, hroom, hf, Addr.add_none, hst]

theorem getElem?_range_map {g : Nat → Value} {n j : Nat} {u : Value} (h : ((List.range n).map g)[j]? = some u) : j < n ∧ u = g j := by
  have hj := (List.getElem?_eq_some_iff.1 h).1
  simp at hj
  simp [hj] at h
  exact ⟨hj, h.symm⟩

theorem append_sound {σ σ1 : St} {γ : Cx} (h : Sim σ γ) {t oty : TypeId} {sz : Nat} {z : List Value} (hk : (ty P t).kind = 1) (hke : (ty P (ty P t).elem).kind ≠ 99) (hz : (ty P (ty P t).elem).zero = some z)
    (hsz : sz = (ty P (ty P t).elem).size) (h0 : 0 < sz) (hzl : z.length = sz) {sD x : AV} {cvS cvX : Value} (hS : RelV σ.objs γ.w γ.Z γ.blk sD cvS) (hX : RelV σ.objs γ.w γ.Z γ.blk x cvX)
    {pre src : List (List AV)} (hd : dstRows σ sz sD = some (pre, σ1)) (hsrc : srcRows σ x = some (sz, src)) (hlen : pre.length + src.length ≤ 549755813888) (hby : (ty P (ty P t).elem).bytes ≤ 128)
    (hsc : (src.all fun row => row.all scal) = true) :
    ∃ cv' γ1, (Builtin.append_ #[t, t] oty #[cvS, cvX]).run P γ.w = .ok cv' γ1.w ∧ γ1.tmps = γ.tmps ∧ Sim { σ1 with objs := σ1.objs ++ [.arr sz (pre ++ src)] } γ1 ∧
      Fr σ.objs γ (σ1.objs ++ [.arr sz (pre ++ src)]) γ1 ∧ RelV (σ1.objs ++ [.arr sz (pre ++ src)]) γ1.w γ1.Z γ1.blk (.ref σ1.objs.length sz 0 (pre.length + src.length)) cv' := by
  obtain ⟨i, d, hi, hud, hsize, hbytes, hzero⟩ := ty_info hke
  have ht := ty_slice hk
  have hisz : i.size = sz := by rw [← hsize, ← hsz]
  obtain ⟨zv, hzv, hzc⟩ : ∃ zv, i.zero = some zv ∧ zv.cells.size = sz := by
    rw [hzero] at hz
    cases hv : i.zero with
    | none => simp [hv] at hz
    | some v => simp [hv] at hz; exact ⟨v, rfl, by rw [← hzl, ← hz]; simp⟩
  obtain ⟨ad, c, g, rfl, hsr, hsa, hsrel⟩ := src_cells h hX h0 hsrc
  obtain ⟨⟨hs1, hf1, _⟩, hcase⟩ := dst_cells h hS hd
  let news := (List.range (src.length * sz)).map g
  have hnl : news.length = src.length * i.size := by simp [news, hisz]
  have hnone : ∀ u ∈ news, u.oneCell' = true := by
    intro u hu
    obtain ⟨j, hj⟩ := List.mem_iff_getElem?.1 hu
    obtain ⟨hjl, rfl⟩ := getElem?_range_map hj
    have h1 : j / sz < src.length := Nat.div_lt_of_lt_mul (by rw [Nat.mul_comm]; exact hjl)
    have h2 : j % sz < sz := Nat.mod_lt _ h0
    have hrl : (src[j / sz]).length = sz := hsr _ (List.getElem_mem h1)
    have := hsrel (j / sz) (j % sz) ((src[j / sz])[j % sz]'(by omega)) (by simp [cellAt, h1, h2, hrl])
    have e : j / sz * sz + j % sz = j := by rw [Nat.mul_comm]; exact Nat.div_add_mod j sz
    rw [e] at this
    refine scal_one this ?_
    rw [List.all_eq_true] at hsc
    have := hsc _ (List.getElem_mem h1)
    rw [List.all_eq_true] at this
    exact this _ (List.getElem_mem _)
  have hnews : 0 < src.length → ∃ a, ad = some a ∧ ∀ j u, news[j]? = some u → γ.w.cell? (a.add j) = some u := by
    intro hp
    obtain ⟨b, o, rfl, hc⟩ := hsa hp
    refine ⟨_, rfl, fun j u hu => ?_⟩
    obtain ⟨hjl, rfl⟩ := getElem?_range_map hu
    rw [Addr.add_none]
    exact hc j hjl
  have hmax : pre.length + src.length ≤ maxLen := by unfold maxLen; omega
  have hbb : (pre.length + src.length) * i.bytes ≤ 140737488355328 := by
    rw [← hbytes]
    calc _ ≤ 549755813888 * 128 := Nat.mul_le_mul hlen hby
      _ ≤ _ := by omega
  -- a new block
  have fresh : ∀ (old : Nat) (go : Nat → Value), (∀ row ∈ pre, row.length = sz) → (∀ r c v, cellAt pre r c = some v → RelV σ.objs γ.w γ.Z γ.blk v (go (r * sz + c))) →
      ∀ (w' : World) (cap : Nat), pre.length + src.length ≤ cap → cap ≤ maxLen →
        w' = γ.w.drew.alloc (.cells (((List.range (pre.length * sz)).map go).toArray ++ news.toArray ++ Builtin.zeroCells zv.cells (cap - (pre.length + src.length))) (ty P t).elem) →
        ∃ γ1 : Cx, γ1.w = w' ∧ γ1.tmps = γ.tmps ∧ Sim { σ1 with objs := σ1.objs ++ [.arr sz (pre ++ src)] } γ1 ∧ Fr σ.objs γ (σ1.objs ++ [.arr sz (pre ++ src)]) γ1 ∧
          RelV (σ1.objs ++ [.arr sz (pre ++ src)]) γ1.w γ1.Z γ1.blk (.ref σ1.objs.length sz 0 (pre.length + src.length)) (.slice (some ⟨γ.w.heap.size, 0, none⟩) (pre.length + src.length) cap) := by
    intro old go hpl hprel w' cap hc1 hc2 hw'
    have hR1 : ∀ v cv, RelV σ.objs γ.w γ.Z γ.blk v cv → RelV σ1.objs γ.w γ.Z γ.blk v cv := by
      intro v cv hv
      refine hv.mono (fun b hb => ⟨hb, rfl⟩) (fun i o ho => ?_)
      unfold dstRows at hd
      split at hd
      · simp at hd
        rw [← hd.2]
        by_cases hgo : o = .gone
        · subst hgo; exact .inl ho
        · exact .inr ⟨rfl, o, ho, Ob.like_refl hgo⟩
      · rename_i id sz' off len
        have hi : i < σ.objs.length := (List.getElem?_eq_some_iff.1 ho).1
        split at hd
        · split at hd
          · simp at hd
            rw [← hd.2]
            show (σ.objs.set id Ob.gone)[i]? = some Ob.gone ∨ _
            simp only [List.getElem?_set]
            by_cases hii : id = i
            · left; simp [hii, hi]
            · rw [if_neg hii]
              by_cases hgo : o = .gone
              · subst hgo; exact .inl ho
              · exact .inr ⟨trivial, o, ho, Ob.like_refl hgo⟩
          · simp at hd
        · simp at hd
      · simp at hd
    let cur := ((List.range (pre.length * sz)).map go).toArray ++ news.toArray ++ Builtin.zeroCells zv.cells (cap - (pre.length + src.length))
    have hob : ObNew σ1.objs γ.w γ.Z γ.blk 0 cap cur (.arr sz (pre ++ src)) := by
      refine ⟨h0, ?_, ?_, by simpa using hc1, hc2, ?_⟩
      · intro row hrow
        rcases List.mem_append.1 hrow with h | h
        · exact hpl row h
        · exact hsr row h
      · simp only [cur, news, Array.size_append, List.size_toArray, List.length_map, List.length_range, size_zeroCells, hzc, ← Nat.add_mul]
        have : pre.length + src.length + (cap - (pre.length + src.length)) = cap := by omega
        rw [this]; omega
      · intro r c v hv
        have := two_cells (R := RelV σ1.objs γ.w γ.Z γ.blk) hpl hsr (fun r c v hv => hR1 _ _ (hprel r c v hv)) (fun r c v hv => hR1 _ _ (hsrel r c v hv)) (Builtin.zeroCells zv.cells (cap - (pre.length + src.length))).toList r c v hv
        rw [Nat.zero_add]
        have e : cur = (((List.range (pre.length * sz)).map go) ++ ((List.range (src.length * sz)).map g) ++ (Builtin.zeroCells zv.cells (cap - (pre.length + src.length))).toList).toArray := by
          apply Array.ext'
          simp [cur, news]
        rw [e]
        exact this
    refine ⟨{ γ with w := w', blk := updB γ.blk σ1.objs.length (some (γ.w.heap.size, 0, cap)) }, rfl, rfl, ?_, ?_, ?_⟩
    · exact hs1.push (t := (ty P t).elem) (cur := cur) (by rw [hw']; rfl) hob
    · exact hf1.trans (Fr.push (σ := σ1) (t := (ty P t).elem) (cur := cur) _ (by rw [hw']; rfl) (by rw [hw']; rfl) (by rw [hw']; rfl) (by rw [hw']; rfl))
    · have := RelV.ref (os := σ1.objs ++ [.arr sz (pre ++ src)]) (w := w') (Z := γ.Z) (blk := updB γ.blk σ1.objs.length (some (γ.w.heap.size, 0, cap))) σ1.objs.length sz 0 (pre.length + src.length) γ.w.heap.size 0 cap cap (pre ++ src)
        (by simp) (by simp [updB]) (by simp) (by omega) hc1
      simpa using this
  rcases hcase with ⟨rfl, rfl⟩ | ⟨id, b, x, bo, cur, tt, rfl, rfl, hlv, rfl, hb, hheap⟩ | ⟨id, off, rows, b, o, cap, cap', cur, tt, ho, rfl, hb, hheap, rfl, hpc, hcm, hfit, hpl, hprel⟩
  · rcases Nat.eq_zero_or_pos src.length with hm | hp
    · -- nil, nothing appended
      have hsn : src = [] := List.eq_nil_of_length_eq_zero hm
      subst hsn
      refine ⟨.slice none 0 0, { γ with blk := updB γ.blk σ1.objs.length none }, ?_, rfl, hs1.pushNil h0, hf1.trans (Fr.pushNil _ _ _), ?_⟩
      · cases ad <;> simp [Builtin.append_, run_underlying ht, sizeOf, typeInfo, hi, Builtin.lenOf, Builtin.firstCells, loadCells, loadCellsFrom]
      · exact .refNil _ _ (by simp) (by simp [updB])
    · obtain ⟨a, rfl, hc⟩ := hnews hp
      have hr := run_append_nil (P := P) γ.w t oty _ i zv ht hi hzv a src.length c news hnl hc hp (by unfold maxLen at hmax; simp at hmax; omega) (by have hb := hbb; simp only [List.length_nil, Nat.zero_add] at hb; omega)
      have hge := grownCap_ge γ.w src.length 0 (ty P t).elem
      have hcm := grownCap_le_maxLen γ.w src.length 0 (ty P t).elem (by simpa using hmax)
      obtain ⟨γ1, e1, e2, e3, e4, e5⟩ := fresh 0 (fun _ => Go.undef) (by simp) (by simp [cellAt]) _ (grownCap γ.w src.length 0 (ty P t).elem) (by simpa using hge) hcm rfl
      simp only [List.length_nil, Nat.zero_mul, List.range_zero, List.map_nil, Nat.zero_add, Array.empty_append] at e1 e5
      refine ⟨.slice (some ⟨γ.w.heap.size, 0, none⟩) src.length (grownCap γ.w src.length 0 (ty P t).elem), γ1, ?_, e2, e3, e4, ?_⟩
      · rw [hr, e1]
      · simpa using e5
  · rcases Nat.eq_zero_or_pos src.length with hm | hp
    · have hsn : src = [] := List.eq_nil_of_length_eq_zero hm
      subst hsn
      obtain ⟨ob, ho, hg⟩ := hlv
      have hoth : ∀ k, k ≠ b → γ.w.heap[k]? = γ.w.heap[k]? := fun _ _ => rfl
      have hsim := h.reown (ob' := .arr sz []) (o' := 0) (cap' := 0) ho hg (o := bo.1) (cap := bo.2) hb hheap hoth rfl ⟨h0, by simp, by simp, by simp, by simp [maxLen], by simp [cellAt]⟩
      have hfr := Fr.reown (γ := γ) (o' := 0) (cap' := 0) (.arr sz []) ho hg (o := bo.1) (cap := bo.2) hb (w' := γ.w) hoth rfl rfl rfl rfl
      refine ⟨.slice (some ⟨b, x, none⟩) 0 0, { γ with w := γ.w, blk := updB γ.blk σ.objs.length (some (b, 0, 0)) }, ?_, rfl, by simpa using hsim, by simpa using hfr, ?_⟩
      · cases ad <;> simp [Builtin.append_, run_underlying ht, sizeOf, typeInfo, hi, Builtin.lenOf, Builtin.firstCells, loadCells, loadCellsFrom, storeCells]
      · have := RelV.refEnd (os := σ.objs.set id .gone ++ [.arr sz []]) (w := γ.w) (Z := γ.Z) (blk := updB γ.blk σ.objs.length (some (b, 0, 0))) σ.objs.length sz 0 b x (0, 0) []
          (by rw [List.getElem?_append_right (by simp)]; simp) (by simp [updB]) (by simp)
        simpa using this
    · obtain ⟨a, rfl, hc⟩ := hnews hp
      have hr := run_append_grow (P := P) γ.w t oty _ i zv ht hi hzv ⟨b, x, none⟩ 0 0 [] (by simp) (by simp) a src.length c news hnl hc (by omega) (by unfold maxLen at hmax; simp at hmax; omega) (growslice_fits (by omega) (by simpa using hbb))
      have hge := grownCap_ge γ.w (0 + src.length) 0 (ty P t).elem
      have hcm := grownCap_le_maxLen γ.w (0 + src.length) 0 (ty P t).elem (by simpa using hmax)
      obtain ⟨γ1, e1, e2, e3, e4, e5⟩ := fresh 0 (fun _ => Go.undef) (by simp) (by simp [cellAt]) _ (grownCap γ.w (0 + src.length) 0 (ty P t).elem) (by simpa using hge) hcm rfl
      refine ⟨.slice (some ⟨γ.w.heap.size, 0, none⟩) (0 + src.length) (grownCap γ.w (0 + src.length) 0 (ty P t).elem), γ1, ?_, e2, e3, e4, ?_⟩
      · rw [hr, e1]; simp
      · simpa using e5
  · by_cases hroom : pre.length + src.length ≤ cap'
    · -- in place
      have hmul : pre.length * sz + src.length * sz ≤ cap' * sz := by rw [← Nat.add_mul]; exact Nat.mul_le_mul_right _ hroom
      have hnl' : news.length = src.length * sz := by rw [hnl, hisz]
      have hr := run_append_room' (P := P) γ.w t oty _ i ht hi b (o + off * sz) pre.length cap' cur tt hheap ad src.length c news hnl hnews hnone hroom (by rw [hisz, hnl']; omega)
      have hob : ObNew σ.objs γ.w γ.Z γ.blk (o + off * sz) cap' (cur.toList.take (o + off * sz + pre.length * i.size) ++ news ++ cur.toList.drop (o + off * sz + pre.length * i.size + news.length)).toArray (.arr sz (pre ++ src)) := by
        refine ⟨h0, ?_, ?_, by simpa using hroom, hcm, ?_⟩
        · intro row hrow
          rcases List.mem_append.1 hrow with h | h
          · exact hpl row h
          · exact hsr row h
        · simp only [List.size_toArray, List.length_append, List.length_take, List.length_drop, Array.length_toList, hisz, hnl']
          omega
        · intro r c v hv
          rw [getD_splice cur _ news (by rw [hisz, hnl']; omega), hisz, hnl']
          rw [cellAt_append] at hv
          split at hv
          · obtain ⟨hr1, hc1⟩ := cellAt_lt hpl hv
            have := flat_lt hr1 hc1
            rw [if_neg (by omega)]
            exact hprel r c v hv
          · obtain ⟨hr1, hc1⟩ := cellAt_lt hsr hv
            have hl := flat_lt hr1 hc1
            have e : r * sz + c = pre.length * sz + ((r - pre.length) * sz + c) := by
              have : r = pre.length + (r - pre.length) := by omega
              conv => lhs; rw [this, Nat.add_mul]
              omega
            rw [if_pos (by omega)]
            have e2 : o + off * sz + (r * sz + c) - (o + off * sz + pre.length * sz) = (r - pre.length) * sz + c := by omega
            rw [e2]
            simp only [news, List.getD_eq_getElem?_getD]
            simp [hl]
            exact hsrel _ _ _ hv
      have hsim := h.reown ho (by simp) hb (setRow_heap γ.w b cur _ tt _ hheap) (fun k hk => setRow_other γ.w b k _ hk) (setRow_size _ _ _) hob
      have hfr := Fr.reown (γ := γ) (o' := o + off * sz) (cap' := cap') (.arr sz (pre ++ src)) ho (by simp) hb (w' := γ.w.setRow b (cur.toList.take (o + off * sz + pre.length * i.size) ++ news ++ cur.toList.drop (o + off * sz + pre.length * i.size + news.length)).toArray) (fun k hk => setRow_other γ.w b k _ hk) (setRow_size _ _ _) rfl rfl rfl
      refine ⟨_, { γ with w := γ.w.setRow b (cur.toList.take (o + off * sz + pre.length * i.size) ++ news ++ cur.toList.drop (o + off * sz + pre.length * i.size + news.length)).toArray, blk := updB γ.blk σ.objs.length (some (b, o + off * sz, cap')) }, hr, rfl, ?_, ?_, ?_⟩
      · simpa using hsim
      · simpa using hfr
      · have := RelV.ref (os := σ.objs.set id .gone ++ [.arr sz (pre ++ src)]) (w := γ.w.setRow b (cur.toList.take (o + off * sz + pre.length * i.size) ++ news ++ cur.toList.drop (o + off * sz + pre.length * i.size + news.length)).toArray) (Z := γ.Z)
          (blk := updB γ.blk σ.objs.length (some (b, o + off * sz, cap'))) σ.objs.length sz 0 (pre.length + src.length) b (o + off * sz) cap' cap' (pre ++ src)
          (by rw [List.getElem?_append_right (by simp)]; simp) (by simp [updB]) (by simp) (by omega) hroom
        simpa using this
    · -- a new array
      let go : Nat → Value := fun j => cur.getD (o + off * sz + j) Go.undef
      let olds := (List.range (pre.length * sz)).map go
      have hol : olds.length = pre.length * i.size := by simp [olds, hisz]
      have hpc' : pre.length * sz ≤ cap' * sz := Nat.mul_le_mul_right _ hpc
      have holds : ∀ j v, olds[j]? = some v → γ.w.cell? ((⟨b, o + off * sz, none⟩ : Addr).add j) = some v := by
        intro j v hj
        obtain ⟨hjl, rfl⟩ := getElem?_range_map hj
        rw [Addr.add_none]
        exact cell_getD hheap (by omega)
      have hp : 0 < src.length := by omega
      obtain ⟨a, rfl, hc⟩ := hnews hp
      have hr := run_append_grow (P := P) γ.w t oty _ i zv ht hi hzv ⟨b, o + off * sz, none⟩ pre.length cap' olds hol holds a src.length c news hnl hc (by omega) (by unfold maxLen at hmax; omega) (growslice_fits (by omega) hbb)
      have hge := grownCap_ge γ.w (pre.length + src.length) cap' (ty P t).elem
      have hcm' := grownCap_le_maxLen γ.w (pre.length + src.length) cap' (ty P t).elem hmax
      obtain ⟨γ1, e1, e2, e3, e4, e5⟩ := fresh 0 go hpl hprel _ (grownCap γ.w (pre.length + src.length) cap' (ty P t).elem) hge hcm' rfl
      refine ⟨_, γ1, ?_, e2, e3, e4, e5⟩
      rw [hr, e1]

end Go.Am
