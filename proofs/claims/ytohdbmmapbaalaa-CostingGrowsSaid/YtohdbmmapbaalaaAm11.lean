import Derived.Test.YtohdbmmapbaalaaAm10
namespace Go.Am
variable {P : Program}

-- renumbering of objects
mutual
def ren (ρ : Nat → Nat) : AV → AV
  | .ref id sz off len => .ref (ρ id) sz off len
  | .ptr id r c => .ptr (ρ id) r c
  | .agg cs => .agg (renL ρ cs)
  | .tup cs => .tup (renL ρ cs)
  | .fn f cs => .fn f (renL ρ cs)
  | v => v
def renL (ρ : Nat → Nat) : List AV → List AV
  | [] => []
  | v :: vs => ren ρ v :: renL ρ vs
end

theorem renL_eq (ρ : Nat → Nat) (l : List AV) : renL ρ l = l.map (ren ρ) := by
  induction l with
  | nil => simp [renL]
  | cons v l ih => simp [renL, ih]

def renO (ρ : Nat → Nat) : Ob → Ob
  | .gone => .gone
  | .var cs => .var (cs.map (ren ρ))
  | .arr sz rows => .arr sz (rows.map (·.map (ren ρ)))

-- no part of memory that may only be read lies behind it
mutual
def flat : AV → Bool
  | .tree .. => false
  | .taddr _ => false
  | .agg cs => flatL cs
  | .tup cs => flatL cs
  | .fn _ cs => flatL cs
  | _ => true
def flatL : List AV → Bool
  | [] => true
  | v :: vs => flat v && flatL vs
end

theorem flatL_mem {l : List AV} (h : flatL l = true) : ∀ v ∈ l, flat v = true := by
  induction l with
  | nil => intro v hv; simp at hv
  | cons x l ih =>
    simp only [flatL, Bool.and_eq_true] at h
    intro v hv
    rcases List.mem_cons.1 hv with rfl | hv
    · exact h.1
    · exact ih h.2 v hv

def flatO : Ob → Prop
  | .gone => True
  | .var cs => ∀ v ∈ cs, flat v = true
  | .arr _ rows => ∀ row ∈ rows, ∀ v ∈ row, flat v = true

theorem RelV.flatZ {os : List Ob} {w : World} {Z Z' : Nat → Prop} {blk : Blk} {v : AV} {cv : Value} (h : RelV os w Z blk v cv) (hf : flat v = true) : RelV os w Z' blk v cv := by
  induction h with
  | undef cv => exact .undef cv
  | frz v cv h => cases h <;> first | exact .frz _ _ (.lit _) | simp [flat] at hf
  | taddr => simp [flat] at hf
  | deadRef id sz off len cv h h1 => exact .deadRef id sz off len cv h h1
  | deadPtr id r c cv h h1 => exact .deadPtr id r c cv h h1
  | ref id sz off len b o cap cap' rows h hb hl hc hlc => exact .ref id sz off len b o cap cap' rows h hb hl hc hlc
  | refNil id sz h hb => exact .refNil id sz h hb
  | refEnd id sz off b x bo rows h hb hl => exact .refEnd id sz off b x bo rows h hb hl
  | ptrV id c b cap cells h hb => exact .ptrV id c b cap cells h hb
  | ptrA id r c sz b o cap rows h hb => exact .ptrA id r c sz b o cap rows h hb
  | agg cs cvs hs _ ih => simp only [flat] at hf; exact .agg cs cvs hs (fun j x hx => ih j x hx (flatL_mem hf x (List.mem_of_getElem? hx)))
  | tup cs cvs hs _ ih => simp only [flat] at hf; exact .tup cs cvs hs (fun j x hx => ih j x hx (flatL_mem hf x (List.mem_of_getElem? hx)))
  | fn f cs cvs hs _ ih => simp only [flat] at hf; exact .fn f cs cvs hs (fun j x hx => ih j x hx (flatL_mem hf x (List.mem_of_getElem? hx)))

/-- from the callee's numbers to the caller's -/
theorem RelV.up {os os' : List Ob} {w : World} {Z Z' : Nat → Prop} {blk blk' : Blk} {ρ : Nat → Nat} {v : AV} {cv : Value} (h : RelV os w Z blk v cv) (hz : ∀ b, Z b → Z' b)
    (ho : ∀ j o, os[j]? = some o → os'[ρ j]? = some (renO ρ o) ∧ (o ≠ .gone → blk' (ρ j) = blk j)) : RelV os' w Z' blk' (ren ρ v) cv := by
  induction h with
  | undef cv => exact .undef cv
  | frz v cv h =>
    have h' : RelV os' w Z' blk' v cv := .frz _ _ (h.mono (fun b hb => ⟨hz b hb, rfl⟩))
    cases h <;> simpa [ren] using h'
  | taddr cells b o f hzb hc ht => exact .taddr cells b o f (hz b hzb) hc (fun j x hx => (ht j x hx).mono (fun b hb => ⟨hz b hb, rfl⟩))
  | deadRef id sz off len cv h h1 => exact .deadRef _ sz off len cv (ho id _ h).1 h1
  | deadPtr id r c cv h h1 => exact .deadPtr _ r c cv (ho id _ h).1 h1
  | ref id sz off len b o cap cap' rows h hb hl hc hlc =>
    obtain ⟨h1, h2⟩ := ho id _ h
    exact .ref _ sz off len b o cap cap' _ h1 ((h2 (by simp)).trans hb) (by simpa using hl) hc hlc
  | refNil id sz h hb =>
    obtain ⟨h1, h2⟩ := ho id _ h
    exact .refNil _ sz h1 ((h2 (by simp)).trans hb)
  | refEnd id sz off b x bo rows h hb hl =>
    obtain ⟨h1, h2⟩ := ho id _ h
    exact .refEnd _ sz off b x bo _ h1 ((h2 (by simp)).trans hb) (by simpa using hl)
  | ptrV id c b cap cells h hb =>
    obtain ⟨h1, h2⟩ := ho id _ h
    exact .ptrV _ c b cap _ h1 ((h2 (by simp)).trans hb)
  | ptrA id r c sz b o cap rows h hb =>
    obtain ⟨h1, h2⟩ := ho id _ h
    exact .ptrA _ r c sz b o cap _ h1 ((h2 (by simp)).trans hb)
  | agg cs cvs hs _ ih =>
    simp only [ren, renL_eq]
    refine .agg _ cvs (by simpa using hs) (fun j x hx => ?_)
    simp only [List.getElem?_map, Option.map_eq_some_iff] at hx
    obtain ⟨y, hy, rfl⟩ := hx
    exact ih j y hy
  | tup cs cvs hs _ ih =>
    simp only [ren, renL_eq]
    refine .tup _ cvs (by simpa using hs) (fun j x hx => ?_)
    simp only [List.getElem?_map, Option.map_eq_some_iff] at hx
    obtain ⟨y, hy, rfl⟩ := hx
    exact ih j y hy
  | fn f cs cvs hs _ ih =>
    simp only [ren, renL_eq]
    refine .fn f _ cvs (by simpa using hs) (fun j x hx => ?_)
    simp only [List.getElem?_map, Option.map_eq_some_iff] at hx
    obtain ⟨y, hy, rfl⟩ := hx
    exact ih j y hy

theorem renO_gone {ρ : Nat → Nat} {o : Ob} : renO ρ o = .gone ↔ o = .gone := by cases o <;> simp [renO]

/-- from the caller's numbers to the callee's -/
theorem RelV.down {os os' : List Ob} {w : World} {Z Z' : Nat → Prop} {blk blk' : Blk} {ρ : Nat → Nat} {v : AV} {cv : Value} (h : RelV os w Z blk v cv) (hz : ∀ b, Z b → Z' b)
    (ho : ∀ j x, os[ρ j]? = some x → ∃ o, os'[j]? = some o ∧ (o = .gone ∨ (x = renO ρ o ∧ blk' j = blk (ρ j)))) : ∀ v', v = ren ρ v' → RelV os' w Z' blk' v' cv := by
  induction h with
  | undef cv => intro v' hv; cases v' <;> simp [ren] at hv; exact .undef cv
  | frz v cv h =>
    intro v' hv
    have h' : RelV os' w Z' blk' v cv := .frz _ _ (h.mono (fun b hb => ⟨hz b hb, rfl⟩))
    cases h <;> cases v' <;> simp [ren] at hv <;> (first | (subst hv; exact h') | (obtain ⟨rfl, rfl⟩ := hv; exact h') | (obtain ⟨rfl, hv⟩ := hv; simp at hv; subst hv; exact h'))
  | taddr cells b o f hzb hc ht =>
    intro v' hv
    cases v' <;> simp [ren] at hv
    subst hv
    exact .taddr _ b o f (hz b hzb) hc (fun j x hx => (ht j x hx).mono (fun b hb => ⟨hz b hb, rfl⟩))
  | deadRef id sz off len cv h h1 =>
    intro v' hv
    cases v' <;> simp [ren] at hv
    obtain ⟨rfl, rfl, rfl, rfl⟩ := hv
    obtain ⟨o, h2, rfl | ⟨h3, _⟩⟩ := ho _ _ h
    · exact .deadRef _ _ _ _ cv h2 h1
    · have := renO_gone.1 h3.symm
      subst this
      exact .deadRef _ _ _ _ cv h2 h1
  | deadPtr id r c cv h h1 =>
    intro v' hv
    cases v' <;> simp [ren] at hv
    obtain ⟨rfl, rfl, rfl⟩ := hv
    obtain ⟨o, h2, rfl | ⟨h3, _⟩⟩ := ho _ _ h
    · exact .deadPtr _ _ _ cv h2 h1
    · have := renO_gone.1 h3.symm
      subst this
      exact .deadPtr _ _ _ cv h2 h1
  | ref id sz off len b o cap cap' rows h hb hl hc hlc =>
    intro v' hv
    cases v' <;> simp [ren] at hv
    obtain ⟨rfl, rfl, rfl, rfl⟩ := hv
    obtain ⟨x, h2, rfl | ⟨h3, h4⟩⟩ := ho _ _ h
    · exact .deadRef _ _ _ _ _ h2 rfl
    · cases x <;> simp [renO] at h3
      obtain ⟨rfl, rfl⟩ := h3
      exact .ref _ _ _ _ b o cap cap' _ h2 (h4.trans hb) (by simpa using hl) hc hlc
  | refNil id sz h hb =>
    intro v' hv
    cases v' <;> simp [ren] at hv
    obtain ⟨rfl, rfl, rfl, rfl⟩ := hv
    obtain ⟨x, h2, rfl | ⟨h3, h4⟩⟩ := ho _ _ h
    · exact .deadRef _ _ _ _ _ h2 rfl
    · cases x <;> simp [renO] at h3
      obtain ⟨rfl, h3⟩ := h3
      subst h3
      exact .refNil _ _ h2 (h4.trans hb)
  | refEnd id sz off b x bo rows h hb hl =>
    intro v' hv
    cases v' <;> simp [ren] at hv
    obtain ⟨rfl, rfl, rfl, rfl⟩ := hv
    obtain ⟨y, h2, rfl | ⟨h3, h4⟩⟩ := ho _ _ h
    · exact .deadRef _ _ _ _ _ h2 rfl
    · cases y <;> simp [renO] at h3
      obtain ⟨rfl, rfl⟩ := h3
      exact .refEnd _ _ _ b x bo _ h2 (h4.trans hb) (by simpa using hl)
  | ptrV id c b cap cells h hb =>
    intro v' hv
    cases v' <;> simp [ren] at hv
    obtain ⟨rfl, rfl, rfl⟩ := hv
    obtain ⟨y, h2, rfl | ⟨h3, h4⟩⟩ := ho _ _ h
    · exact .deadPtr _ _ _ _ h2 rfl
    · cases y <;> simp [renO] at h3
      exact .ptrV _ _ b cap _ h2 (h4.trans hb)
  | ptrA id r c sz b o cap rows h hb =>
    intro v' hv
    cases v' <;> simp [ren] at hv
    obtain ⟨rfl, rfl, rfl⟩ := hv
    obtain ⟨y, h2, rfl | ⟨h3, h4⟩⟩ := ho _ _ h
    · exact .deadPtr _ _ _ _ h2 rfl
    · cases y <;> simp [renO] at h3
      obtain ⟨rfl, rfl⟩ := h3
      exact .ptrA _ _ _ _ b o cap _ h2 (h4.trans hb)
  | agg cs cvs hs _ ih =>
    intro v' hv
    cases v' <;> simp [ren, renL_eq] at hv
    rename_i cs'
    subst hv
    exact .agg _ cvs (by simpa using hs) (fun j x hx => ih j (ren ρ x) (by simp [hx]) x rfl)
  | tup cs cvs hs _ ih =>
    intro v' hv
    cases v' <;> simp [ren, renL_eq] at hv
    rename_i cs'
    subst hv
    exact .tup _ cvs (by simpa using hs) (fun j x hx => ih j (ren ρ x) (by simp [hx]) x rfl)
  | fn f cs cvs hs _ ih =>
    intro v' hv
    cases v' <;> simp [ren, renL_eq] at hv
    obtain ⟨rfl, hv⟩ := hv
    subst hv
    exact .fn _ _ cvs (by simpa using hs) (fun j x hx => ih j (ren ρ x) (by simp [hx]) x rfl)

/-- the function has a body of its own -/
def Callable (P : Program) (f : FuncId) : Prop := ∃ fn, P.funcs[f]? = some fn ∧ (fn.name == "runtime.NumGoroutine") = false ∧ fn.body.isNone = false

/-- THE CONTRACT OF A GO FUNCTION on abstract values: called with these arguments over these objects it returns res, and leaves the objects so (new ones behind) -/
def Holds (P : Program) (f : FuncId) (args : List AV) (objs : List Ob) (res : AV) (objs' : List Ob) : Prop :=
  Callable P f ∧ ∀ γ : Cx, γ.tmps.size = args.length → Sim ⟨fun k => args.getD k .undef, objs⟩ γ →
    Calls P f γ.tmps γ.w (fun e w' => ∃ cv γ', e = .returned cv ∧ γ'.w = w' ∧ γ'.tmps = #[cv] ∧ Sim ⟨fun k => [res].getD k .undef, objs'⟩ γ' ∧ Fr objs γ objs' γ')

/-- a slice of one's own, with all that lies behind it, as a thing that is only read -/
inductive Frz (σ : St) (kp : Nat → Prop) : AV → AV → Prop
  | lit (x : Value) : Frz σ kp (.lit x) (.lit x)
  | tree (s : Nat) (r : List (List AV)) : Frz σ kp (.tree s r) (.tree s r)
  | nil (sz : Nat) : Frz σ kp (.tree sz []) (.lit (.slice none 0 0))
  | ref (id sz off len : Nat) (rows rows' : List (List AV)) (g : Nat → Nat → AV) (ho : σ.objs[id]? = some (.arr sz rows)) (hsel : ¬ kp id) (hl : rows'.length = ((rows.drop off).take len).length) (hw : ∀ row ∈ rows', row.length = sz)
      (h1 : ∀ r c v, cellAt rows' r c = some v → cellAt ((rows.drop off).take len) r c = some (g r c)) (h2 : ∀ r c v, cellAt rows' r c = some v → Frz σ kp v (g r c)) : Frz σ kp (.tree sz rows') (.ref id sz off len)

/-- an argument as the callee sees it: renumbered, or (snap) a slice of the caller's own as a thing that is only read -/
inductive ArgR (σ : St) (kp : Nat → Prop) (ρ : Nat → Nat) (snap : Bool) : AV → AV → Prop
  | same (v : AV) : ArgR σ kp ρ snap v (ren ρ v)
  | snap (c d : AV) (hs : snap = true) (h : Frz σ kp c d) : ArgR σ kp ρ snap c d
  | agg (cs ds : List AV) (hl : cs.length = ds.length) (h : ∀ (j : Nat) c d, cs[j]? = some c → ds[j]? = some d → ArgR σ kp ρ snap c d) : ArgR σ kp ρ snap (.agg cs) (.agg ds)
  | tup (cs ds : List AV) (hl : cs.length = ds.length) (h : ∀ (j : Nat) c d, cs[j]? = some c → ds[j]? = some d → ArgR σ kp ρ snap c d) : ArgR σ kp ρ snap (.tup cs) (.tup ds)

def rho (n : Nat) (sel : List Nat) (j : Nat) : Nat := if j < sel.length then sel.getD j 0 else n + (j - sel.length)

def mergeO (objs : List Ob) : List Nat → List Ob → List Ob
  | i :: sel, o :: new => mergeO (objs.set i o) sel new
  | [], new => objs ++ new
  | _ :: _, [] => objs

theorem mergeO_length (sel : List Nat) : ∀ (objs new : List Ob), sel.length ≤ new.length → (mergeO objs sel new).length = objs.length + (new.length - sel.length) := by
  induction sel with
  | nil => intro objs new _; simp [mergeO]
  | cons i sel ih =>
    intro objs new h
    cases new with
    | nil => simp at h
    | cons o new => simp only [mergeO]; rw [ih _ _ (by simpa using h)]; simp

theorem mergeO_sel (sel : List Nat) : ∀ (objs new : List Ob), sel.length ≤ new.length → sel.Nodup → (∀ i ∈ sel, i < objs.length) → ∀ j, j < sel.length → (mergeO objs sel new)[sel.getD j 0]? = new[j]? := by
  induction sel with
  | nil => intro objs new _ _ _ j hj; simp at hj
  | cons i sel ih =>
    intro objs new h hn hl j hj
    cases new with
    | nil => simp at h
    | cons o new =>
      simp only [mergeO]
      rw [List.nodup_cons] at hn
      have hi := hl i (by simp)
      have h' : sel.length ≤ new.length := by simpa using h
      cases j with
      | zero =>
        simp only [List.getD_cons_zero, List.getElem?_cons_zero]
        have key : ∀ (sel : List Nat) (objs new : List Ob), sel.length ≤ new.length → i ∉ sel → i < objs.length → (mergeO objs sel new)[i]? = objs[i]? := by
          intro sel
          induction sel with
          | nil => intro objs new _ _ hi; simp only [mergeO]; rw [List.getElem?_append_left hi]
          | cons k sel ih2 =>
            intro objs new h hni hi
            cases new with
            | nil => simp at h
            | cons o new =>
              simp only [List.mem_cons, not_or] at hni
              simp only [mergeO]
              rw [ih2 _ _ (by simpa using h) hni.2 (by simpa using hi), List.getElem?_set_ne (Ne.symm hni.1)]
        rw [key sel _ _ h' hn.1 (by simpa using hi)]
        simp [hi]
      | succ j =>
        simp only [List.getD_cons_succ, List.getElem?_cons_succ]
        exact ih _ _ h' hn.2 (fun k hk => by simpa using hl k (by simp [hk])) j (by simpa using hj)

theorem mergeO_other (sel : List Nat) : ∀ (objs new : List Ob), sel.length ≤ new.length → ∀ i, i ∉ sel → i < objs.length → (mergeO objs sel new)[i]? = objs[i]? := by
  induction sel with
  | nil => intro objs new _ i _ hi; simp only [mergeO]; rw [List.getElem?_append_left hi]
  | cons k sel ih =>
    intro objs new h i hni hi
    cases new with
    | nil => simp at h
    | cons o new =>
      simp only [List.mem_cons, not_or] at hni
      simp only [mergeO]
      rw [ih _ _ (by simpa using h) i hni.2 (by simpa using hi), List.getElem?_set_ne (Ne.symm hni.1)]

theorem mergeO_new (sel : List Nat) : ∀ (objs new : List Ob), sel.length ≤ new.length → ∀ m, (mergeO objs sel new)[objs.length + m]? = new[sel.length + m]? := by
  induction sel with
  | nil => intro objs new _ m; simp only [mergeO]; rw [List.getElem?_append_right (by omega)]; simp
  | cons k sel ih =>
    intro objs new h m
    cases new with
    | nil => simp at h
    | cons o new =>
      simp only [mergeO]
      have := ih (objs.set k o) new (by simpa using h) m
      simp only [List.length_set] at this
      rw [this]
      simp only [List.length_cons]
      have e : sel.length + 1 + m = (sel.length + m) + 1 := by omega
      rw [e]; simp

end Go.Am
