import Derived.Test.YtohdbmmapbaalaaAm50
import Derived.Test.YtohdbmmapbaalaaAm42
namespace Go.Am
variable {P : Program} {N n0 : Nat} {σ : St} {Q : Exit → St → Prop}

/-- an own variable is described otherwise, cell by cell -/
theorem Sim.revar {σ : St} {γ : Cx} (h : Sim σ γ) {id : Nat} {cells cells' : List AV} (ho : σ.objs[id]? = some (.var cells)) (hl : cells'.length = cells.length)
    (hc : ∀ (c : Nat) v v', cells[c]? = some v → cells'[c]? = some v' → ∀ cv, RelV σ.objs γ.w γ.Z γ.blk v cv → RelV σ.objs γ.w γ.Z γ.blk v' cv) : Sim ⟨σ.env, σ.objs.set id (.var cells')⟩ γ := by
  obtain ⟨b, cap, cur, t, h1, h2, h3, h4⟩ := h.obs id _ ho
  have := h.write (ob' := .var cells') ho (by simp) (by simp [Ob.like, hl]) h1 (w' := γ.w) h2 (fun _ _ => rfl) rfl ⟨rfl, by rw [h3, hl], fun c v hv => ?_⟩
  · exact this
  · have hlt : c < cells.length := by rw [← hl]; exact (List.getElem?_eq_some_iff.1 hv).1
    exact hc c _ v (List.getElem?_eq_getElem hlt) hv _ (h4 c _ (List.getElem?_eq_getElem hlt))

theorem Fr.revar (os : List Ob) (γ : Cx) {id : Nat} {cells cells' : List AV} (ho : os[id]? = some (.var cells)) (hl : cells'.length = cells.length) : Fr os γ (os.set id (.var cells')) γ where
  eos := rfl
  tape := rfl
  output := rfl
  size := Nat.le_refl _
  keep := fun _ _ _ => rfl
  z0 := fun _ h => h
  z1 := fun _ h => .inl h
  own := by
    rintro b ⟨i, o, c, ⟨x, hx, hgx⟩, hb⟩
    rw [List.getElem?_set] at hx
    split at hx
    · rename_i e; subst e; exact .inl ⟨id, o, c, ⟨_, ho, by simp⟩, hb⟩
    · exact .inl ⟨i, o, c, ⟨x, hx, hgx⟩, hb⟩
  len := by simp
  old := by
    rintro i hi ⟨x, hx, hgx⟩
    have hx0 := hx
    rw [List.getElem?_set] at hx
    split at hx
    · rename_i e; subst e
      exact ⟨rfl, .var cells, .var cells', ho, by rw [List.getElem?_set]; simp [hi], by simp [Ob.like, hl]⟩
    · exact ⟨rfl, x, x, hx, hx0, Ob.like_refl hgx⟩

/-- a nil slice in a cell of an own variable becomes a slice of the activation's own -/
theorem Turns.nilC (id c sz : Nat) {cells : List AV} (ho : σ.objs[id]? = some (.var cells)) (hc : cells[c]? = some (.lit (.slice none 0 0))) (h0 : 0 < sz) :
    Turns n0 σ ⟨σ.env, (σ.objs ++ [Ob.arr sz []]).set id (.var (cells.set c (.ref σ.objs.length sz 0 0)))⟩ := by
  intro os γ0 γ _ hs hf
  have hp := hs.pushNil h0
  have hid : id < σ.objs.length := (List.getElem?_eq_some_iff.1 ho).1
  have ho' : (σ.objs ++ [Ob.arr sz []])[id]? = some (.var cells) := by rw [List.getElem?_append_left hid]; exact ho
  refine ⟨{ γ with blk := updB γ.blk σ.objs.length none }, rfl, rfl, ?_, (hf.trans (Fr.pushNil _ _ _)).trans (Fr.revar _ _ ho' (cells' := cells.set c (.ref σ.objs.length sz 0 0)) (by simp))⟩
  refine hp.revar ho' (cells' := cells.set c (.ref σ.objs.length sz 0 0)) (by simp) (fun k v v' hv hv' cv hr => ?_)
  rw [List.getElem?_set] at hv'
  split at hv'
  · rename_i e; subst e
    split at hv'
    · simp only [Option.some.injEq] at hv'
      subst hv'
      have hk : cells[c]? = some v := hv
      rw [hc] at hk
      simp only [Option.some.injEq] at hk
      subst hk
      rw [hr.lit_inv]
      exact .refNil _ _ (List.getElem?_concat_length ..) (by simp [updB])
    · simp at hv'
  · have hk : cells[k]? = some v' := hv'
    have hk2 : cells[k]? = some v := hv
    rw [hk2] at hk
    simp only [Option.some.injEq] at hk
    subst hk
    exact hr

/-- an own slice that stands in a cell of an own variable may only be read from now on -/
theorem Turns.frzV (a id c sz : Nat) {cells : List AV} {rows : List (List AV)} (ho : σ.objs[id]? = some (.var cells)) (ha : σ.objs[a]? = some (.arr sz rows)) (hc : cells[c]? = some (.ref a sz 0 rows.length))
    (hw : ∀ row ∈ rows, row.length = sz) (hfz : ∀ row ∈ rows, ∀ v ∈ row, (∃ x, v = .lit x) ∨ ∃ s r, v = .tree s r) : Turns n0 σ ⟨σ.env, (σ.objs.set a .gone).set id (.var (cells.set c (.tree sz rows)))⟩ := by
  intro os γ0 γ _ hs hf
  have hai : a ≠ id := by intro e; subst e; rw [ho] at ha; simp at ha
  have hidl : id < σ.objs.length := (List.getElem?_eq_some_iff.1 ho).1
  have hal : a < σ.objs.length := (List.getElem?_eq_some_iff.1 ha).1
  let γ' : Cx := { γ with Z := fun b => γ.Z b ∨ ∃ o cap, γ.blk a = some (b, o, cap) }
  let os2 := (σ.objs.set a .gone).set id (.var (cells.set c (.tree sz rows)))
  have hget : ∀ i, os2[i]? = if i = id then some (.var (cells.set c (.tree sz rows))) else if i = a then some .gone else σ.objs[i]? := by
    intro i
    show ((σ.objs.set a .gone).set id _)[i]? = _
    rw [List.getElem?_set, List.getElem?_set]
    by_cases h1 : i = id
    · subst h1; simp [hidl]
    · by_cases h2 : i = a
      · subst h2; simp [Ne.symm h1, h1, hal]
      · simp [Ne.symm h1, Ne.symm h2, h1, h2]
  have hR : ∀ v cv, RelV σ.objs γ.w γ.Z γ.blk v cv → RelV os2 γ'.w γ'.Z γ'.blk v cv := fun v cv hv =>
    hv.mono (fun b hb => ⟨.inl hb, rfl⟩) (fun i o hi => by
      rw [hget]
      by_cases h1 : i = id
      · subst h1
        rw [ho] at hi
        simp only [Option.some.injEq] at hi
        subst hi
        right
        exact ⟨rfl, _, by rw [if_pos rfl], by simp [Ob.like]⟩
      · rw [if_neg h1]
        by_cases h2 : i = a
        · left; rw [if_pos h2]
        · rw [if_neg h2]
          by_cases hg : o = .gone
          · subst hg; exact .inl hi
          · exact .inr ⟨rfl, o, hi, Ob.like_refl hg⟩)
  have hlive : ∀ i, Live os2 i → Live σ.objs i ∧ i ≠ a := by
    rintro i ⟨o, hi, hg⟩
    rw [hget] at hi
    split at hi
    · rename_i h1; subst h1; exact ⟨⟨_, ho, by simp⟩, Ne.symm hai⟩
    · split at hi
      · simp at hi; exact absurd hi.symm hg
      · rename_i h2; exact ⟨⟨o, hi, hg⟩, h2⟩
  have hav : Live σ.objs a := ⟨_, ha, by simp⟩
  refine ⟨γ', rfl, rfl, ⟨fun k => hR _ _ (hs.slots k), ?_, fun i j b o c o' c' hi hj => hs.inj i j b o c o' c' (hlive i hi).1 (hlive j hj).1, ?_, ?_⟩, ?_⟩
  · intro i o hi
    have hi' : os2[i]? = some o := hi
    rw [hget] at hi'
    split at hi'
    · rename_i h1
      subst h1
      simp only [Option.some.injEq] at hi'
      subst hi'
      obtain ⟨b, cap, cur, t, h1, h2, h3, h4⟩ := hs.obs _ _ ho
      refine ⟨b, cap, cur, t, h1, h2, by simpa using h3, fun k v hv => ?_⟩
      rw [List.getElem?_set] at hv
      split at hv
      · rename_i e
        subst e
        split at hv
        · simp only [Option.some.injEq] at hv
          subst hv
          have hfr : Frz σ (fun x => x ≠ a) (.tree sz rows) (.ref a sz 0 rows.length) := Frz.flat ha hw rfl (by simp) hfz
          exact .frz _ _ (hfr.treeR hs (γc := γ') (fun b hb => .inl hb) rfl (fun x b o cap hid _ hb => .inr ⟨o, cap, by rw [show a = x by simpa using (Decidable.not_not.1 hid).symm]; exact hb⟩) _ (h4 c _ hc))
        · simp at hv
      · exact hR _ _ (h4 k v hv)
    · split at hi'
      · simp only [Option.some.injEq] at hi'; subst hi'; trivial
      · by_cases hg : o = .gone
        · subst hg; trivial
        · exact (hs.obs i o hi').mono hR rfl (fun _ _ _ _ => rfl)
  · rintro b ⟨i, o, c', hi, hb⟩ (hz | ⟨o', cap, hb'⟩)
    · exact hs.nz b ⟨i, o, c', (hlive i hi).1, hb⟩ hz
    · exact (hlive i hi).2 (hs.inj i a b o c' o' cap (hlive i hi).1 hav hb hb')
  · rintro b (hz | ⟨o, cap, hb⟩)
    · exact hs.zlt b hz
    · exact hs.blt hav hb
  · refine ⟨hf.eos, hf.tape, hf.output, hf.size, hf.keep, fun b hb => .inl (hf.z0 b hb), ?_, ?_, by show os.length ≤ os2.length; simp [os2]; exact hf.len, ?_⟩
    · rintro b (hz | ⟨o, cap, hb⟩)
      · exact hf.z1 b hz
      · exact .inr (hf.own b ⟨a, o, cap, hav, hb⟩)
    · rintro b ⟨i, o, c', hi, hb⟩
      exact hf.own b ⟨i, o, c', (hlive i hi).1, hb⟩
    · intro i hi hl
      obtain ⟨h1, x, x', hx, hx', hk⟩ := hf.old i hi (hlive i hl).1
      have hia := (hlive i hl).2
      have hl' : Live os2 i := hl
      obtain ⟨o, ho2, hg2⟩ := hl'
      refine ⟨h1, x, o, hx, ho2, ?_⟩
      rw [hget] at ho2
      split at ho2
      · rename_i e
        subst e
        rw [ho] at hx'
        simp only [Option.some.injEq] at hx' ho2
        subst hx'; subst ho2
        refine Ob.like_trans hk (by simp [Ob.like])
      · rw [hx'] at ho2
        simp only [Option.some.injEq] at ho2
        subst ho2; exact hk

end Go.Am
