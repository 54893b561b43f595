import Derived.Test.YtohdbmmapbaalaaAm6
namespace Go.Am
variable {P : Program}

/-- an object without a block: a nil slice -/
theorem Sim.pushNil {σ : St} {γ : Cx} (h : Sim σ γ) {sz : Nat} (hsz : 0 < sz) :
    Sim { σ with objs := σ.objs ++ [.arr sz []] } { γ with blk := updB γ.blk σ.objs.length none } := by
  have hR : ∀ v cv, RelV σ.objs γ.w γ.Z γ.blk v cv → RelV (σ.objs ++ [.arr sz []]) γ.w γ.Z (updB γ.blk σ.objs.length none) v cv := fun v cv hv =>
    hv.mono (fun b hb => ⟨hb, rfl⟩) (fun i o ho => by
      have hi : i < σ.objs.length := (List.getElem?_eq_some_iff.1 ho).1
      have ho' : (σ.objs ++ [.arr sz []])[i]? = some o := by rw [List.getElem?_append_left hi]; exact ho
      by_cases hgo : o = .gone
      · subst hgo; exact .inl ho'
      · exact .inr ⟨by simp [updB, Nat.ne_of_lt hi], o, ho', Ob.like_refl hgo⟩)
  have hlive : ∀ i b, updB γ.blk σ.objs.length none i = some b → Live (σ.objs ++ [.arr sz []]) i → Live σ.objs i ∧ γ.blk i = some b := by
    rintro i b hb ⟨o, ho, hgo⟩
    simp only [updB] at hb
    split at hb
    · simp at hb
    · rename_i hne
      have hi : i < σ.objs.length := by have := (List.getElem?_eq_some_iff.1 ho).1; simp at this; omega
      rw [List.getElem?_append_left hi] at ho
      exact ⟨⟨o, ho, hgo⟩, hb⟩
  refine ⟨fun k => hR _ _ (h.slots k), ?_, ?_, ?_, h.zlt⟩
  · intro i o ho
    rcases Nat.lt_or_ge i σ.objs.length with hi | hi
    · rw [List.getElem?_append_left hi] at ho
      exact (h.obs i o ho).mono hR (by simp [updB, Nat.ne_of_lt hi]) (fun _ _ _ _ => rfl)
    · have hi' : i = σ.objs.length := by have := (List.getElem?_eq_some_iff.1 ho).1; simp at this; omega
      subst hi'
      simp at ho
      subst ho
      exact ⟨hsz, by simp, .inl ⟨by simp [updB], rfl⟩⟩
  · intro i j b o c o' c' hi hj hbi hbj
    obtain ⟨hi1, hi2⟩ := hlive i _ hbi hi
    obtain ⟨hj1, hj2⟩ := hlive j _ hbj hj
    exact h.inj i j b o c o' c' hi1 hj1 hi2 hj2
  · rintro b ⟨i, o, c, hi, hb⟩
    obtain ⟨hi1, hi2⟩ := hlive i _ hb hi
    exact h.nz b ⟨i, o, c, hi1, hi2⟩

theorem Fr.pushNil (os : List Ob) (γ : Cx) (sz : Nat) : Fr os γ (os ++ [.arr sz []]) { γ with blk := updB γ.blk os.length none } where
  eos := rfl
  tape := rfl
  output := rfl
  size := Nat.le_refl _
  keep := fun _ _ _ => rfl
  z0 := fun _ h => h
  z1 := fun _ h => .inl h
  own := by
    rintro b ⟨i, o, c, ⟨x, hx, hgx⟩, hb⟩
    simp only [updB] at hb
    split at hb
    · simp at hb
    · have hi : i < os.length := by have := (List.getElem?_eq_some_iff.1 hx).1; simp at this; omega
      rw [List.getElem?_append_left hi] at hx
      exact .inl ⟨i, o, c, ⟨x, hx, hgx⟩, hb⟩
  len := by simp
  old := by
    rintro i hi ⟨x, hx, hgx⟩
    have hx0 := hx
    rw [List.getElem?_append_left hi] at hx
    exact ⟨by simp [updB, Nat.ne_of_lt hi], x, x, hx, hx0, Ob.like_refl hgx⟩

/-- THE BLOCK OF AN OBJECT GOES OVER TO A NEW ONE -/
theorem Sim.reown {σ : St} {γ : Cx} (h : Sim σ γ) {id : Nat} {ob ob' : Ob} (ho : σ.objs[id]? = some ob) (hg : ob ≠ .gone) {b o cap o' cap' : Nat} (hb : γ.blk id = some (b, o, cap))
    {w' : World} {cur : Array Value} {t : TypeId} (hw : w'.heap[b]? = some (.cells cur t (0, 0))) (hoth : ∀ k, k ≠ b → w'.heap[k]? = γ.w.heap[k]?) (hsz : w'.heap.size = γ.w.heap.size)
    (hob : ObNew σ.objs γ.w γ.Z γ.blk o' cap' cur ob') :
    Sim { σ with objs := σ.objs.set id .gone ++ [ob'] } { γ with w := w', blk := updB γ.blk σ.objs.length (some (b, o', cap')) } := by
  have hid : id < σ.objs.length := (List.getElem?_eq_some_iff.1 ho).1
  have hlv : Live σ.objs id := ⟨ob, ho, hg⟩
  have hR : ∀ v cv, RelV σ.objs γ.w γ.Z γ.blk v cv → RelV (σ.objs.set id .gone ++ [ob']) w' γ.Z (updB γ.blk σ.objs.length (some (b, o', cap'))) v cv := fun v cv hv =>
    hv.mono (fun z hz => ⟨hz, hoth z (fun e => h.nz b ⟨id, o, cap, hlv, hb⟩ (e ▸ hz))⟩) (fun i x hx => by
      have hi : i < σ.objs.length := (List.getElem?_eq_some_iff.1 hx).1
      rw [List.getElem?_append_left (by simpa using hi), List.getElem?_set]
      by_cases hii : id = i
      · left; simp [hii, hi]
      · rw [if_neg hii]
        by_cases hgo : x = .gone
        · subst hgo; exact .inl hx
        · exact .inr ⟨by simp [updB, Nat.ne_of_lt hi], x, hx, Ob.like_refl hgo⟩)
  have hlive : ∀ i, Live (σ.objs.set id .gone ++ [ob']) i → i = σ.objs.length ∨ (i < σ.objs.length ∧ i ≠ id ∧ Live σ.objs i) := by
    rintro i ⟨x, hx, hgx⟩
    rcases Nat.lt_or_ge i σ.objs.length with hi | hi
    · right
      rw [List.getElem?_append_left (by simpa using hi), List.getElem?_set] at hx
      split at hx
      · simp at hx; exact absurd hx.symm hgx
      · rename_i hne
        exact ⟨hi, Ne.symm hne, x, hx, hgx⟩
    · left
      have := (List.getElem?_eq_some_iff.1 hx).1
      simp at this; omega
  refine ⟨fun k => hR _ _ (h.slots k), ?_, ?_, ?_, fun z hz => by rw [hsz]; exact h.zlt z hz⟩
  · intro i x hx
    rcases Nat.lt_or_ge i σ.objs.length with hi | hi
    · rw [List.getElem?_append_left (by simpa using hi), List.getElem?_set] at hx
      split at hx
      · simp at hx; subst hx; trivial
      · rename_i hne
        by_cases hgo : x = .gone
        · subst hgo; trivial
        · refine (h.obs i x hx).mono hR (by simp [updB, Nat.ne_of_lt hi]) (fun z y c hz => hoth z (fun e => hne ?_))
          subst e
          exact h.inj id i z o cap y c hlv ⟨x, hx, hgo⟩ hb hz
    · have hi' : i = σ.objs.length := by have := (List.getElem?_eq_some_iff.1 hx).1; simp at this; omega
      subst hi'
      rw [List.getElem?_append_right (by simp)] at hx
      simp at hx
      subst hx
      exact hob.obR (b := b) (cap := cap') hR (by simp [updB]) hw
  · intro i j z y c y' c' hi hj hbi hbj
    simp only [updB] at hbi hbj
    rcases hlive i hi with rfl | ⟨hil, hine, hi'⟩ <;> rcases hlive j hj with rfl | ⟨hjl, hjne, hj'⟩
    · rfl
    · rw [if_pos rfl] at hbi
      rw [if_neg (Nat.ne_of_lt hjl)] at hbj
      simp at hbi
      rw [← hbi.1] at hbj
      exact absurd (h.inj j id b y' c' o cap hj' hlv hbj hb) hjne
    · rw [if_pos rfl] at hbj
      rw [if_neg (Nat.ne_of_lt hil)] at hbi
      simp at hbj
      rw [← hbj.1] at hbi
      exact absurd (h.inj i id b y c o cap hi' hlv hbi hb) hine
    · rw [if_neg (Nat.ne_of_lt hil)] at hbi
      rw [if_neg (Nat.ne_of_lt hjl)] at hbj
      exact h.inj i j z y c y' c' hi' hj' hbi hbj
  · rintro z ⟨i, y, c, hi, hz⟩ hzz
    simp only [updB] at hz
    rcases hlive i hi with rfl | ⟨hil, hine, hi'⟩
    · rw [if_pos rfl] at hz
      simp at hz
      rw [← hz.1] at hzz
      exact h.nz b ⟨id, o, cap, hlv, hb⟩ hzz
    · rw [if_neg (Nat.ne_of_lt hil)] at hz
      exact h.nz z ⟨i, y, c, hi', hz⟩ hzz

theorem Fr.reown {σ : St} {γ : Cx} {id : Nat} {ob : Ob} (ob' : Ob) (ho : σ.objs[id]? = some ob) (hg : ob ≠ .gone) {b o cap o' cap' : Nat} (hb : γ.blk id = some (b, o, cap))
    {w' : World} (hoth : ∀ k, k ≠ b → w'.heap[k]? = γ.w.heap[k]?) (hsz : w'.heap.size = γ.w.heap.size) (h1 : w'.os = γ.w.os) (h2 : w'.tape = γ.w.tape) (h3 : w'.output = γ.w.output) :
    Fr σ.objs γ (σ.objs.set id .gone ++ [ob']) { γ with w := w', blk := updB γ.blk σ.objs.length (some (b, o', cap')) } where
  eos := h1
  tape := h2
  output := h3
  size := by simp [hsz]
  keep := fun z _ hno => hoth z (fun e => hno ⟨id, o, cap, ⟨ob, ho, hg⟩, e ▸ hb⟩)
  z0 := fun _ h => h
  z1 := fun _ h => .inl h
  own := by
    rintro z ⟨i, y, c, ⟨x, hx, hgx⟩, hz⟩
    simp only [updB] at hz
    split at hz
    · simp at hz
      left
      exact ⟨id, o, cap, ⟨ob, ho, hg⟩, by rw [hb, hz.1]⟩
    · have hi : i < σ.objs.length := by have := (List.getElem?_eq_some_iff.1 hx).1; simp at this; omega
      rw [List.getElem?_append_left (by simpa using hi), List.getElem?_set] at hx
      split at hx
      · split at hx <;> simp at hx; exact absurd hx.symm hgx
      · exact .inl ⟨i, y, c, ⟨x, hx, hgx⟩, hz⟩
  len := by simp
  old := by
    rintro i hi ⟨x, hx, hgx⟩
    have hx0 := hx
    rw [List.getElem?_append_left (by simpa using hi), List.getElem?_set] at hx
    split at hx
    · split at hx <;> simp at hx; exact absurd hx.symm hgx
    · exact ⟨by simp [updB, Nat.ne_of_lt hi], x, x, hx, hx0, Ob.like_refl hgx⟩

/-- the cells of a slice that is read -/
theorem src_cells {σ : St} {γ : Cx} (h : Sim σ γ) {x : AV} {cv : Value} (hv : RelV σ.objs γ.w γ.Z γ.blk x cv) {sz : Nat} (hsz : 0 < sz) {src : List (List AV)} (hs : srcRows σ x = some (sz, src)) :
    ∃ ad c, ∃ g : Nat → Value, cv = .slice ad src.length c ∧ (∀ row ∈ src, row.length = sz) ∧ (0 < src.length → ∃ b o, ad = some ⟨b, o, none⟩ ∧ ∀ j, j < src.length * sz → γ.w.cell? ⟨b, o + j, none⟩ = some (g j)) ∧
      ∀ r c v, cellAt src r c = some v → RelV σ.objs γ.w γ.Z γ.blk v (g (r * sz + c)) := by
  cases x with
  | tree sz' rows =>
    simp [srcRows] at hs
    obtain ⟨rfl, rfl⟩ := hs
    cases hv.tree_inv with
    | nil _ cap a => exact ⟨a, cap, fun _ => Go.undef, rfl, by simp, by simp, by simp [cellAt]⟩
    | tree _ _ b o cap f hz hr hcap hc ht =>
      refine ⟨_, cap, fun j => f (j / sz') (j % sz'), rfl, hr, fun hlen => ⟨b, o, rfl, ?_⟩, ?_⟩
      · intro j hj
        have h1 : j / sz' < rows.length := Nat.div_lt_of_lt_mul (by rw [Nat.mul_comm]; exact hj)
        have h2 : j % sz' < sz' := Nat.mod_lt _ hsz
        have hrl : (rows[j / sz']).length = sz' := hr _ (List.getElem_mem h1)
        have := hc (j / sz') (j % sz') ((rows[j / sz'])[j % sz']'(by omega)) (by simp [cellAt, h1, h2, hrl])
        have e : j / sz' * sz' + j % sz' = j := by rw [Nat.mul_comm]; exact Nat.div_add_mod j sz'
        rw [e] at this
        exact this
      · intro r c v hcv
        have hcl : c < sz' := by
          simp only [cellAt, Option.bind_eq_some_iff] at hcv
          obtain ⟨y, hy, hyc⟩ := hcv
          have := hr y (List.mem_of_getElem? hy)
          have := (List.getElem?_eq_some_iff.1 hyc).1
          omega
        have e1 : (r * sz' + c) / sz' = r := by rw [Nat.mul_comm, Nat.mul_add_div hsz, Nat.div_eq_of_lt hcl]; rfl
        have e2 : (r * sz' + c) % sz' = c := by rw [Nat.mul_comm, Nat.mul_add_mod, Nat.mod_eq_of_lt hcl]
        simp only [e1, e2]
        exact .frz _ _ (ht r c v hcv)
  | ref id sz' off len =>
    simp only [srcRows] at hs
    cases ho : σ.objs[id]? with
    | none => simp [ho] at hs
    | some ob =>
      have hob := h.obs id ob ho
      cases ob with
      | gone => simp [ho] at hs
      | var cells => simp [ho] at hs
      | arr sz'' rows =>
        simp only [ho] at hs
        split at hs
        · rename_i he
          subst he
          simp at hs
          obtain ⟨rfl, rfl⟩ := hs
          obtain ⟨_, hrl, hob⟩ := hob
          cases hv with
          | frz _ _ h => cases h
          | deadRef _ _ _ _ _ h => rw [ho] at h; simp at h
          | refNil _ _ h hb =>
            rw [ho] at h; simp at h; subst h
            exact ⟨none, 0, fun _ => Go.undef, rfl, by simp, by simp, by simp [cellAt]⟩
          | refEnd _ _ _ b x bo rows' h hb hl =>
            exact ⟨some ⟨b, x, none⟩, 0, fun _ => Go.undef, by simp, by simp, by simp, by simp [cellAt]⟩
          | ref _ _ _ _ b o cap cap' rows' h hb hl hc hlc =>
            rw [ho] at h; simp at h
            subst h
            rcases hob with ⟨h1, _⟩ | ⟨b', o', cap'', cur, t, h1, h2, h3, h4, h5, h6⟩
            · rw [hb] at h1; simp at h1
            · rw [hb] at h1; simp at h1
              obtain ⟨rfl, rfl, rfl⟩ := h1
              have hlen : ((rows.drop off).take len).length = len := by simp; omega
              refine ⟨_, cap', fun j => cur.getD (o + off * sz'' + j) Go.undef, by rw [hlen], ?_, fun _ => ⟨b, o + off * sz'', rfl, ?_⟩, ?_⟩
              · intro row hrow
                exact hrl row (List.mem_of_mem_drop (List.mem_of_mem_take hrow))
              · intro j hj
                rw [hlen] at hj
                refine cell_getD h2 ?_
                have : (off + len) * sz'' ≤ cap * sz'' := Nat.mul_le_mul_right _ (by omega)
                rw [Nat.add_mul] at this
                omega
              · intro r c v hcv
                simp only [cellAt, List.getElem?_take, List.getElem?_drop] at hcv
                split at hcv
                · have := h6 (off + r) c v hcv
                  rw [Nat.add_mul] at this
                  have e : o + (off * sz'' + r * sz'' + c) = o + off * sz'' + (r * sz'' + c) := by omega
                  rw [e] at this
                  exact this
                · simp at hcv
        · simp at hs
  | _ => simp [srcRows] at hs

end Go.Am
