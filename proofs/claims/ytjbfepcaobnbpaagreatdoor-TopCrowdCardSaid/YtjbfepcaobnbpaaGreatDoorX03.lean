import Derived.Test.YtjbfepcaobnbpaaGreatDoorX02
set_option linter.unusedVariables false
set_option linter.unusedSimpArgs false
set_option linter.unnecessarySimpa false
set_option linter.unusedSectionVars false
section
namespace Go.Am
variable {P : Program}

-- renumbering of objects
mutual
def ren (ρ : Nat → Nat) : AV → AV
  | .ref id sz off len => .ref (ρ id) sz off len
  | .ptr id r c => .ptr (ρ id) r c
  | .agg cs => .agg (renL ρ cs)
  | .tup cs => .tup (renL ρ cs)
  | .fn f cs => .fn f (renL ρ cs)
  | .bfn f cs => .bfn f (renL ρ cs)
  | .ifc t v => .ifc t (ren ρ v)
  | .mref id => .mref (ρ id)
  | v => v
def renL (ρ : Nat → Nat) : List AV → List AV
  | [] => []
  | v :: vs => ren ρ v :: renL ρ vs
end

theorem renL_eq (ρ : Nat → Nat) (l : List AV) : renL ρ l = l.map (ren ρ) := by
  induction l with
  | nil => simp [renL]
  | cons v l ih => simp [renL, ih]

def renO (ρ : Nat → Nat) : Ob → Ob
  | .gone => .gone
  | .var cs => .var (cs.map (ren ρ))
  | .arr sz rows => .arr sz (rows.map (·.map (ren ρ)))
  | .mp ag L => .mp ag (L.map fun p => (p.1, ren ρ p.2))

-- no part of memory that may only be read lies behind it
mutual
def flat : AV → Bool
  | .tree .. => false
  | .taddr _ => false
  | .agg cs => flatL cs
  | .tup cs => flatL cs
  | .fn _ cs => flatL cs
  | .bfn _ cs => flatL cs
  | .ifc _ v => flat v
  | _ => true
def flatL : List AV → Bool
  | [] => true
  | v :: vs => flat v && flatL vs
end

theorem flatL_mem {l : List AV} (h : flatL l = true) : ∀ v ∈ l, flat v = true := by
  induction l with
  | nil => intro v hv; simp at hv
  | cons x l ih =>
    simp only [flatL, Bool.and_eq_true] at h
    intro v hv
    rcases List.mem_cons.1 hv with rfl | hv
    · exact h.1
    · exact ih h.2 v hv

def flatO : Ob → Prop
  | .gone => True
  | .var cs => ∀ v ∈ cs, flat v = true
  | .arr _ rows => ∀ row ∈ rows, ∀ v ∈ row, flat v = true
  | .mp _ L => ∀ p ∈ L, flat p.2 = true

theorem RelV.flatZ {os : List Ob} {w : World} {Z Z' : Nat → Prop} {blk : Blk} {v : AV} {cv : Value} (h : RelV os w Z blk v cv) (hf : flat v = true) : RelV os w Z' blk v cv := by
  induction h with
  | undef cv => exact .undef cv
  | frz v cv h => cases h <;> first | exact .frz _ _ (.lit _) | simp [flat] at hf
  | taddr => simp [flat] at hf
  | deadRef id sz off len cv h h1 => exact .deadRef id sz off len cv h h1
  | deadPtr id r c cv h h1 => exact .deadPtr id r c cv h h1
  | ref id sz off len b o cap cap' rows h hb hl hc hlc => exact .ref id sz off len b o cap cap' rows h hb hl hc hlc
  | refNil id sz h hb => exact .refNil id sz h hb
  | refEnd id sz off b x bo rows h hb hl => exact .refEnd id sz off b x bo rows h hb hl
  | ptrV id c b cap cells h hb => exact .ptrV id c b cap cells h hb
  | ptrA id r c sz b o cap rows h hb => exact .ptrA id r c sz b o cap rows h hb
  | agg cs cvs hs _ ih => simp only [flat] at hf; exact .agg cs cvs hs (fun j x hx => ih j x hx (flatL_mem hf x (List.mem_of_getElem? hx)))
  | tup cs cvs hs _ ih => simp only [flat] at hf; exact .tup cs cvs hs (fun j x hx => ih j x hx (flatL_mem hf x (List.mem_of_getElem? hx)))
  | fn f cs cvs hs _ ih => simp only [flat] at hf; exact .fn f cs cvs hs (fun j x hx => ih j x hx (flatL_mem hf x (List.mem_of_getElem? hx)))
  | bfn f cs cvs hs _ ih => simp only [flat] at hf; exact .bfn f cs cvs hs (fun j x hx => ih j x hx (flatL_mem hf x (List.mem_of_getElem? hx)))
  | ifc t v cv _ ih => simp only [flat] at hf; exact .ifc t v cv (ih hf)
  | mref id b ag L h hb => exact .mref id b ag L h hb
  | deadM id cv h h1 => exact .deadM id cv h h1

/-- from the callee's numbers to the caller's -/
theorem RelV.up {os os' : List Ob} {w : World} {Z Z' : Nat → Prop} {blk blk' : Blk} {ρ : Nat → Nat} {v : AV} {cv : Value} (h : RelV os w Z blk v cv) (hz : ∀ b, Z b → Z' b)
    (ho : ∀ j o, os[j]? = some o → os'[ρ j]? = some (renO ρ o) ∧ (o ≠ .gone → blk' (ρ j) = blk j)) : RelV os' w Z' blk' (ren ρ v) cv := by
  induction h with
  | undef cv => exact .undef cv
  | frz v cv h =>
    have h' : RelV os' w Z' blk' v cv := .frz _ _ (h.mono (fun b hb => ⟨hz b hb, rfl⟩))
    cases h <;> simpa [ren] using h'
  | taddr cells b o f hzb hc ht => exact .taddr cells b o f (hz b hzb) hc (fun j x hx => (ht j x hx).mono (fun b hb => ⟨hz b hb, rfl⟩))
  | deadRef id sz off len cv h h1 => exact .deadRef _ sz off len cv (ho id _ h).1 h1
  | deadPtr id r c cv h h1 => exact .deadPtr _ r c cv (ho id _ h).1 h1
  | ref id sz off len b o cap cap' rows h hb hl hc hlc =>
    obtain ⟨h1, h2⟩ := ho id _ h
    exact .ref _ sz off len b o cap cap' _ h1 ((h2 (by simp)).trans hb) (by simpa using hl) hc hlc
  | refNil id sz h hb =>
    obtain ⟨h1, h2⟩ := ho id _ h
    exact .refNil _ sz h1 ((h2 (by simp)).trans hb)
  | refEnd id sz off b x bo rows h hb hl =>
    obtain ⟨h1, h2⟩ := ho id _ h
    exact .refEnd _ sz off b x bo _ h1 ((h2 (by simp)).trans hb) (by simpa using hl)
  | ptrV id c b cap cells h hb =>
    obtain ⟨h1, h2⟩ := ho id _ h
    exact .ptrV _ c b cap _ h1 ((h2 (by simp)).trans hb)
  | ptrA id r c sz b o cap rows h hb =>
    obtain ⟨h1, h2⟩ := ho id _ h
    exact .ptrA _ r c sz b o cap _ h1 ((h2 (by simp)).trans hb)
  | agg cs cvs hs _ ih =>
    simp only [ren, renL_eq]
    refine .agg _ cvs (by simpa using hs) (fun j x hx => ?_)
    simp only [List.getElem?_map, Option.map_eq_some_iff] at hx
    obtain ⟨y, hy, rfl⟩ := hx
    exact ih j y hy
  | tup cs cvs hs _ ih =>
    simp only [ren, renL_eq]
    refine .tup _ cvs (by simpa using hs) (fun j x hx => ?_)
    simp only [List.getElem?_map, Option.map_eq_some_iff] at hx
    obtain ⟨y, hy, rfl⟩ := hx
    exact ih j y hy
  | fn f cs cvs hs _ ih =>
    simp only [ren, renL_eq]
    refine .fn f _ cvs (by simpa using hs) (fun j x hx => ?_)
    simp only [List.getElem?_map, Option.map_eq_some_iff] at hx
    obtain ⟨y, hy, rfl⟩ := hx
    exact ih j y hy
  | bfn f cs cvs hs _ ih =>
    simp only [ren, renL_eq]
    refine .bfn f _ cvs (by simpa using hs) (fun j x hx => ?_)
    simp only [List.getElem?_map, Option.map_eq_some_iff] at hx
    obtain ⟨y, hy, rfl⟩ := hx
    exact ih j y hy
  | ifc t v cv _ ih => simp only [ren]; exact .ifc t _ cv ih
  | mref id b ag L h hb =>
    obtain ⟨h1, h2⟩ := ho id _ h
    exact .mref _ b ag _ h1 ((h2 (by simp)).trans hb)
  | deadM id cv h h1 => exact .deadM _ cv (ho id _ h).1 h1

theorem renO_gone {ρ : Nat → Nat} {o : Ob} : renO ρ o = .gone ↔ o = .gone := by cases o <;> simp [renO]

theorem Ob.like_ren2 {ρ : Nat → Nat} {x y : Ob} (h : x.like y) : (renO ρ x).like (renO ρ y) := by
  cases x <;> cases y <;> simp [Ob.like, renO] at h ⊢ <;> exact h

/-- from the caller's numbers to the callee's -/
theorem RelV.down {os os' : List Ob} {w : World} {Z Z' : Nat → Prop} {blk blk' : Blk} {ρ : Nat → Nat} {v : AV} {cv : Value} (h : RelV os w Z blk v cv) (hz : ∀ b, Z b → Z' b)
    (ho : ∀ j x, os[ρ j]? = some x → ∃ o, os'[j]? = some o ∧ (o = .gone ∨ (x = renO ρ o ∧ blk' j = blk (ρ j)))) : ∀ v', v = ren ρ v' → RelV os' w Z' blk' v' cv := by
  induction h with
  | undef cv => intro v' hv; cases v' <;> simp [ren] at hv; exact .undef cv
  | frz v cv h =>
    intro v' hv
    have h' : RelV os' w Z' blk' v cv := .frz _ _ (h.mono (fun b hb => ⟨hz b hb, rfl⟩))
    cases h <;> cases v' <;> simp [ren] at hv <;> (first | (subst hv; exact h') | (obtain ⟨rfl, rfl⟩ := hv; exact h') | (obtain ⟨rfl, hv⟩ := hv; simp at hv; subst hv; exact h'))
  | taddr cells b o f hzb hc ht =>
    intro v' hv
    cases v' <;> simp [ren] at hv
    subst hv
    exact .taddr _ b o f (hz b hzb) hc (fun j x hx => (ht j x hx).mono (fun b hb => ⟨hz b hb, rfl⟩))
  | deadRef id sz off len cv h h1 =>
    intro v' hv
    cases v' <;> simp [ren] at hv
    obtain ⟨rfl, rfl, rfl, rfl⟩ := hv
    obtain ⟨o, h2, rfl | ⟨h3, _⟩⟩ := ho _ _ h
    · exact .deadRef _ _ _ _ cv h2 h1
    · have := renO_gone.1 h3.symm
      subst this
      exact .deadRef _ _ _ _ cv h2 h1
  | deadPtr id r c cv h h1 =>
    intro v' hv
    cases v' <;> simp [ren] at hv
    obtain ⟨rfl, rfl, rfl⟩ := hv
    obtain ⟨o, h2, rfl | ⟨h3, _⟩⟩ := ho _ _ h
    · exact .deadPtr _ _ _ cv h2 h1
    · have := renO_gone.1 h3.symm
      subst this
      exact .deadPtr _ _ _ cv h2 h1
  | ref id sz off len b o cap cap' rows h hb hl hc hlc =>
    intro v' hv
    cases v' <;> simp [ren] at hv
    obtain ⟨rfl, rfl, rfl, rfl⟩ := hv
    obtain ⟨x, h2, rfl | ⟨h3, h4⟩⟩ := ho _ _ h
    · exact .deadRef _ _ _ _ _ h2 rfl
    · cases x <;> simp [renO] at h3
      obtain ⟨rfl, rfl⟩ := h3
      exact .ref _ _ _ _ b o cap cap' _ h2 (h4.trans hb) (by simpa using hl) hc hlc
  | refNil id sz h hb =>
    intro v' hv
    cases v' <;> simp [ren] at hv
    obtain ⟨rfl, rfl, rfl, rfl⟩ := hv
    obtain ⟨x, h2, rfl | ⟨h3, h4⟩⟩ := ho _ _ h
    · exact .deadRef _ _ _ _ _ h2 rfl
    · cases x <;> simp [renO] at h3
      obtain ⟨rfl, h3⟩ := h3
      subst h3
      exact .refNil _ _ h2 (h4.trans hb)
  | refEnd id sz off b x bo rows h hb hl =>
    intro v' hv
    cases v' <;> simp [ren] at hv
    obtain ⟨rfl, rfl, rfl, rfl⟩ := hv
    obtain ⟨y, h2, rfl | ⟨h3, h4⟩⟩ := ho _ _ h
    · exact .deadRef _ _ _ _ _ h2 rfl
    · cases y <;> simp [renO] at h3
      obtain ⟨rfl, rfl⟩ := h3
      exact .refEnd _ _ _ b x bo _ h2 (h4.trans hb) (by simpa using hl)
  | ptrV id c b cap cells h hb =>
    intro v' hv
    cases v' <;> simp [ren] at hv
    obtain ⟨rfl, rfl, rfl⟩ := hv
    obtain ⟨y, h2, rfl | ⟨h3, h4⟩⟩ := ho _ _ h
    · exact .deadPtr _ _ _ _ h2 rfl
    · cases y <;> simp [renO] at h3
      exact .ptrV _ _ b cap _ h2 (h4.trans hb)
  | ptrA id r c sz b o cap rows h hb =>
    intro v' hv
    cases v' <;> simp [ren] at hv
    obtain ⟨rfl, rfl, rfl⟩ := hv
    obtain ⟨y, h2, rfl | ⟨h3, h4⟩⟩ := ho _ _ h
    · exact .deadPtr _ _ _ _ h2 rfl
    · cases y <;> simp [renO] at h3
      obtain ⟨rfl, rfl⟩ := h3
      exact .ptrA _ _ _ _ b o cap _ h2 (h4.trans hb)
  | agg cs cvs hs _ ih =>
    intro v' hv
    cases v' <;> simp [ren, renL_eq] at hv
    rename_i cs'
    subst hv
    exact .agg _ cvs (by simpa using hs) (fun j x hx => ih j (ren ρ x) (by simp [hx]) x rfl)
  | tup cs cvs hs _ ih =>
    intro v' hv
    cases v' <;> simp [ren, renL_eq] at hv
    rename_i cs'
    subst hv
    exact .tup _ cvs (by simpa using hs) (fun j x hx => ih j (ren ρ x) (by simp [hx]) x rfl)
  | fn f cs cvs hs _ ih =>
    intro v' hv
    cases v' <;> simp [ren, renL_eq] at hv
    obtain ⟨rfl, hv⟩ := hv
    subst hv
    exact .fn _ _ cvs (by simpa using hs) (fun j x hx => ih j (ren ρ x) (by simp [hx]) x rfl)
  | bfn f cs cvs hs _ ih =>
    intro v' hv
    cases v' <;> simp [ren, renL_eq] at hv
    obtain ⟨rfl, hv⟩ := hv
    subst hv
    exact .bfn _ _ cvs (by simpa using hs) (fun j x hx => ih j (ren ρ x) (by simp [hx]) x rfl)
  | ifc t v cv _ ih =>
    intro v' hv
    cases v' <;> simp [ren] at hv
    obtain ⟨rfl, hv⟩ := hv
    exact .ifc _ _ cv (ih _ hv)
  | mref id b ag L h hb =>
    intro v' hv
    cases v' <;> simp [ren] at hv
    subst hv
    obtain ⟨y, h2, rfl | ⟨h3, h4⟩⟩ := ho _ _ h
    · exact .deadM _ _ h2 rfl
    · cases y <;> simp [renO] at h3
      obtain ⟨rfl, h3⟩ := h3
      exact .mref _ b _ _ h2 (h4.trans hb)
  | deadM id cv h h1 =>
    intro v' hv
    cases v' <;> simp [ren] at hv
    subst hv
    obtain ⟨y, h2, rfl | ⟨h3, h4⟩⟩ := ho _ _ h
    · exact .deadM _ _ h2 h1
    · exact .deadM _ _ (by rw [h2, renO_gone.1 h3.symm]) h1

/-- the function has a body of its own -/
def Callable (P : Program) (f : FuncId) : Prop := ∃ fn, P.funcs[f]? = some fn ∧ (fn.name == "runtime.NumGoroutine") = false ∧ fn.body.isNone = false

/-- THE CONTRACT OF A GO FUNCTION on abstract values: called with these arguments over these objects it returns res, and leaves the objects so (new ones behind) -/
def Holds (P : Program) (f : FuncId) (args : List AV) (objs : List Ob) (res : AV) (objs' : List Ob) : Prop :=
  Callable P f ∧ ∀ γ : Cx, γ.tmps.size = args.length → Sim ⟨fun k => args.getD k .undef, objs⟩ γ →
    Calls P f γ.tmps γ.w (fun e w' => ∃ cv γ', e = .returned cv ∧ γ'.w = w' ∧ γ'.tmps = #[cv] ∧ Sim ⟨fun k => [res].getD k .undef, objs'⟩ γ' ∧ Fr objs γ objs' γ')

/-- a slice of one's own, with all that lies behind it, as a thing that is only read -/
inductive Frz (σ : St) (kp : Nat → Prop) : AV → AV → Prop
  | lit (x : Value) : Frz σ kp (.lit x) (.lit x)
  | tree (s : Nat) (r : List (List AV)) : Frz σ kp (.tree s r) (.tree s r)
  | nil (sz : Nat) : Frz σ kp (.tree sz []) (.lit (.slice none 0 0))
  | ref (id sz off len : Nat) (rows rows' : List (List AV)) (g : Nat → Nat → AV) (ho : σ.objs[id]? = some (.arr sz rows)) (hsel : ¬ kp id) (hl : rows'.length = ((rows.drop off).take len).length) (hw : ∀ row ∈ rows', row.length = sz)
      (h1 : ∀ r c v, cellAt rows' r c = some v → cellAt ((rows.drop off).take len) r c = some (g r c)) (h2 : ∀ r c v, cellAt rows' r c = some v → Frz σ kp v (g r c)) : Frz σ kp (.tree sz rows') (.ref id sz off len)

/-- an argument as the callee sees it: renumbered, or (snap) a slice of the caller's own as a thing that is only read -/
inductive ArgR (σ : St) (kp : Nat → Prop) (ρ : Nat → Nat) (snap : Bool) : AV → AV → Prop
  | same (v : AV) : ArgR σ kp ρ snap v (ren ρ v)
  | snap (c d : AV) (hs : snap = true) (h : Frz σ kp c d) : ArgR σ kp ρ snap c d
  | agg (cs ds : List AV) (hl : cs.length = ds.length) (h : ∀ (j : Nat) c d, cs[j]? = some c → ds[j]? = some d → ArgR σ kp ρ snap c d) : ArgR σ kp ρ snap (.agg cs) (.agg ds)
  | tup (cs ds : List AV) (hl : cs.length = ds.length) (h : ∀ (j : Nat) c d, cs[j]? = some c → ds[j]? = some d → ArgR σ kp ρ snap c d) : ArgR σ kp ρ snap (.tup cs) (.tup ds)

def rho (n : Nat) (sel : List Nat) (j : Nat) : Nat := if j < sel.length then sel.getD j 0 else n + (j - sel.length)

def mergeO (objs : List Ob) : List Nat → List Ob → List Ob
  | i :: sel, o :: new => mergeO (objs.set i o) sel new
  | [], new => objs ++ new
  | _ :: _, [] => objs

theorem mergeO_length (sel : List Nat) : ∀ (objs new : List Ob), sel.length ≤ new.length → (mergeO objs sel new).length = objs.length + (new.length - sel.length) := by
  induction sel with
  | nil => intro objs new _; simp [mergeO]
  | cons i sel ih =>
    intro objs new h
    cases new with
    | nil => simp at h
    | cons o new => simp only [mergeO]; rw [ih _ _ (by simpa using h)]; simp

theorem mergeO_sel (sel : List Nat) : ∀ (objs new : List Ob), sel.length ≤ new.length → sel.Nodup → (∀ i ∈ sel, i < objs.length) → ∀ j, j < sel.length → (mergeO objs sel new)[sel.getD j 0]? = new[j]? := by
  induction sel with
  | nil => intro objs new _ _ _ j hj; simp at hj
  | cons i sel ih =>
    intro objs new h hn hl j hj
    cases new with
    | nil => simp at h
    | cons o new =>
      simp only [mergeO]
      rw [List.nodup_cons] at hn
      have hi := hl i (by simp)
      have h' : sel.length ≤ new.length := by simpa using h
      cases j with
      | zero =>
        simp only [List.getD_cons_zero, List.getElem?_cons_zero]
        have key : ∀ (sel : List Nat) (objs new : List Ob), sel.length ≤ new.length → i ∉ sel → i < objs.length → (mergeO objs sel new)[i]? = objs[i]? := by
          intro sel
          induction sel with
          | nil => intro objs new _ _ hi; simp only [mergeO]; rw [List.getElem?_append_left hi]
          | cons k sel ih2 =>
            intro objs new h hni hi
            cases new with
            | nil => simp at h
            | cons o new =>
              simp only [List.mem_cons, not_or] at hni
              simp only [mergeO]
              rw [ih2 _ _ (by simpa using h) hni.2 (by simpa using hi), List.getElem?_set_ne (Ne.symm hni.1)]
        rw [key sel _ _ h' hn.1 (by simpa using hi)]
        simp [hi]
      | succ j =>
        simp only [List.getD_cons_succ, List.getElem?_cons_succ]
        exact ih _ _ h' hn.2 (fun k hk => by simpa using hl k (by simp [hk])) j (by simpa using hj)

theorem mergeO_other (sel : List Nat) : ∀ (objs new : List Ob), sel.length ≤ new.length → ∀ i, i ∉ sel → i < objs.length → (mergeO objs sel new)[i]? = objs[i]? := by
  induction sel with
  | nil => intro objs new _ i _ hi; simp only [mergeO]; rw [List.getElem?_append_left hi]
  | cons k sel ih =>
    intro objs new h i hni hi
    cases new with
    | nil => simp at h
    | cons o new =>
      simp only [List.mem_cons, not_or] at hni
      simp only [mergeO]
      rw [ih _ _ (by simpa using h) i hni.2 (by simpa using hi), List.getElem?_set_ne (Ne.symm hni.1)]

theorem mergeO_new (sel : List Nat) : ∀ (objs new : List Ob), sel.length ≤ new.length → ∀ m, (mergeO objs sel new)[objs.length + m]? = new[sel.length + m]? := by
  induction sel with
  | nil => intro objs new _ m; simp only [mergeO]; rw [List.getElem?_append_right (by omega)]; simp
  | cons k sel ih =>
    intro objs new h m
    cases new with
    | nil => simp at h
    | cons o new =>
      simp only [mergeO]
      have := ih (objs.set k o) new (by simpa using h) m
      simp only [List.length_set] at this
      rw [this]
      simp only [List.length_cons]
      have e : sel.length + 1 + m = (sel.length + m) + 1 := by omega
      rw [e]; simp

end Go.Am
end
section
namespace Go.Am
variable {P : Program}

/-- THE CALL OF A GO FUNCTION, by its contract: sel: the objects that are lent (their numbers, in the callee's order); snap: slices of the caller's own are handed over to be read only -/
def callW (P : Program) (f : FuncId) (args : List AV) (σ : St) (K : AV → St → Prop) : Prop :=
  ∃ (sel : List Nat) (snap : Bool) (cargs : List AV) (cobjs : List Ob) (res : AV) (cobjs' : List Ob), Holds P f cargs cobjs res cobjs' ∧
    (sel.Nodup ∧ cobjs.length = sel.length ∧ (∀ (j : Nat) o, cobjs[j]? = some o → σ.objs[sel.getD j 0]? = some (renO (rho σ.objs.length sel) o)) ∧
      cargs.length = args.length ∧ (∀ (j : Nat) c d, cargs[j]? = some c → args[j]? = some d → ArgR σ (· ∈ sel) (rho σ.objs.length sel) snap c d) ∧
      (snap = true → flat res = true ∧ ∀ o ∈ cobjs', flatO o)) ∧
    K (ren (rho σ.objs.length sel) res) { σ with objs := mergeO σ.objs sel (cobjs'.map (renO (rho σ.objs.length sel))) }

theorem Frz.treeR {σ : St} {γ : Cx} (h : Sim σ γ) {kp : Nat → Prop} {γc : Cx}
    (hz : ∀ b, γ.Z b → γc.Z b) (hw : γc.w = γ.w) (hzs : ∀ id b o cap, ¬ kp id → Live σ.objs id → γ.blk id = some (b, o, cap) → γc.Z b)
    {c d : AV} (ha : Frz σ kp c d) : ∀ cv, RelV σ.objs γ.w γ.Z γ.blk d cv → TreeR γc.w γc.Z c cv := by
  induction ha with
  | lit x => intro cv hv; rw [hv.lit_inv]; exact .lit x
  | tree s r => intro cv hv; exact hv.tree_inv.mono (fun b hb => ⟨hz b hb, by rw [hw]⟩)
  | nil sz => intro cv hv; rw [hv.lit_inv]; exact .nil sz 0 none
  | ref id sz off len rows rows' g hob hsel hl0 hw0 hg1 hg2 ih =>
    intro cv hv
    obtain ⟨h0, hrl, hblk⟩ := h.obs id _ hob
    have hlive : Live σ.objs id := ⟨_, hob, by simp⟩
    cases hv with
    | frz _ _ h => cases h
    | deadRef _ _ _ _ _ h => rw [hob] at h; simp at h
    | refNil _ _ h' hb =>
      have : rows' = [] := List.eq_nil_of_length_eq_zero (by simpa using hl0)
      subst this; exact TreeR.nil sz 0 none
    | refEnd _ _ _ b x bo rows'' h' hb hl =>
      have : rows' = [] := List.eq_nil_of_length_eq_zero (by simpa using hl0)
      subst this; exact TreeR.nil sz 0 (some ⟨b, x, none⟩)
    | ref _ _ _ _ b o cap cap' rows'' h' hb hl hc hlc =>
      rw [hob] at h'; simp at h'
      subst h'
      rcases hblk with ⟨h1, _⟩ | ⟨b', o', cap'', cur, t, h1, h2, h3, h4, h5, h6⟩
      · rw [hb] at h1; simp at h1
      · rw [hb] at h1; simp at h1
        obtain ⟨rfl, rfl, rfl⟩ := h1
        have hlen : ((rows.drop off).take len).length = len := by simp; omega
        have hcell : ∀ r c v, cellAt ((rows.drop off).take len) r c = some v → cellAt rows (off + r) c = some v ∧ r < len := by
          intro r c v hv
          simp only [cellAt, List.getElem?_take, List.getElem?_drop] at hv
          split at hv
          · exact ⟨hv, by assumption⟩
          · simp at hv
        have hbz : γc.Z b := hzs id b o cap hsel hlive hb
        have := TreeR.tree (w := γc.w) (Z := γc.Z) sz rows' b (o + off * sz) cap' (fun r c => cur.getD (o + ((off + r) * sz + c)) Go.undef) hbz
          hw0 (by rw [hl0, hlen]; exact hlc)
          (fun r c v hv => by
            obtain ⟨hv', hr⟩ := hcell r c _ (hg1 r c v hv)
            obtain ⟨hr', hc'⟩ := cellAt_lt hrl hv'
            have hlt := flat_lt (show off + r < cap by omega) hc'
            rw [hw]
            have e : o + off * sz + (r * sz + c) = o + ((off + r) * sz + c) := by rw [Nat.add_mul]; omega
            rw [e]
            exact cell_getD h2 (by omega))
          (fun r c v hv => by
            obtain ⟨hv', _⟩ := hcell r c _ (hg1 r c v hv)
            exact ih r c v hv _ (h6 _ _ _ hv'))
        rw [hl0, hlen] at this
        exact this

theorem ArgR.rel {σ : St} {γ : Cx} (h : Sim σ γ) {kp : Nat → Prop} {ρ : Nat → Nat} {cobjs : List Ob} {snap : Bool} {γc : Cx}
    (hz : ∀ b, γ.Z b → γc.Z b) (hw : γc.w = γ.w) (hzs : snap = true → ∀ id b o cap, ¬ kp id → Live σ.objs id → γ.blk id = some (b, o, cap) → γc.Z b)
    (ho : ∀ j x, σ.objs[ρ j]? = some x → ∃ o, cobjs[j]? = some o ∧ (o = .gone ∨ (x = renO ρ o ∧ γc.blk j = γ.blk (ρ j))))
    {c d : AV} (ha : ArgR σ kp ρ snap c d) : ∀ cv, RelV σ.objs γ.w γ.Z γ.blk d cv → RelV cobjs γc.w γc.Z γc.blk c cv := by
  induction ha with
  | same v =>
    intro cv hv
    rw [hw]
    exact hv.down hz ho v rfl
  | snap c d hs hf =>
    intro cv hv
    exact .frz _ _ (hf.treeR h hz hw (hzs hs) cv hv)
  | agg cs ds hl _ ih =>
    intro cv hv
    obtain ⟨cvs, rfl, h1, h2⟩ := hv.agg_inv
    refine .agg cs cvs (by omega) (fun j x hx => ?_)
    have hj : j < ds.length := by have := (List.getElem?_eq_some_iff.1 hx).1; omega
    exact ih j x ds[j] hx (by simp [hj]) _ (h2 j _ (by simp [hj]))
  | tup cs ds hl _ ih =>
    intro cv hv
    obtain ⟨cvs, rfl, h1, h2⟩ := hv.tup_inv
    refine .tup cs cvs (by omega) (fun j x hx => ?_)
    have hj : j < ds.length := by have := (List.getElem?_eq_some_iff.1 hx).1; omega
    exact ih j x ds[j] hx (by simp [hj]) _ (h2 j _ (by simp [hj]))

theorem rho_lt {n : Nat} {sel : List Nat} (_hs : ∀ i ∈ sel, i < n) {j : Nat} (h : rho n sel j < n) : j < sel.length ∧ rho n sel j = sel.getD j 0 := by
  unfold rho at h ⊢
  split
  · exact ⟨by assumption, rfl⟩
  · rename_i hj
    rw [if_neg hj] at h
    omega

theorem getD_mem {sel : List Nat} {j : Nat} (h : j < sel.length) : sel.getD j 0 ∈ sel := by
  rw [List.getD_eq_getElem?_getD]; simp [h]

theorem nodup_getD {sel : List Nat} (hn : sel.Nodup) {i j : Nat} (hi : i < sel.length) (hj : j < sel.length) (h : sel.getD i 0 = sel.getD j 0) : i = j := by
  rw [List.getD_eq_getElem?_getD, List.getD_eq_getElem?_getD] at h
  simp [hi, hj] at h
  exact (List.getElem_inj hn).1 h

theorem exists_sel {sel : List Nat} {i : Nat} (h : i ∈ sel) : ∃ j, j < sel.length ∧ sel.getD j 0 = i := by
  obtain ⟨j, hj⟩ := List.mem_iff_getElem?.1 h
  have := (List.getElem?_eq_some_iff.1 hj).1
  exact ⟨j, this, by rw [List.getD_eq_getElem?_getD, hj]; rfl⟩

/-- THE SAME with results of which only a property is known -/
def HoldsR (P : Program) (f : FuncId) (args : List AV) (objs : List Ob) (Post : AV → List Ob → Prop) : Prop :=
  Callable P f ∧ ∀ γ : Cx, γ.tmps.size = args.length → Sim ⟨fun k => args.getD k .undef, objs⟩ γ →
    Calls P f γ.tmps γ.w (fun e w' => ∃ res objs' cv γ', Post res objs' ∧ e = .returned cv ∧ γ'.w = w' ∧ γ'.tmps = #[cv] ∧ Sim ⟨fun k => [res].getD k .undef, objs'⟩ γ' ∧ Fr objs γ objs' γ')

def callWR (P : Program) (f : FuncId) (args : List AV) (σ : St) (K : AV → St → Prop) : Prop :=
  ∃ (sel : List Nat) (snap : Bool) (cargs : List AV) (cobjs : List Ob) (Post : AV → List Ob → Prop), HoldsR P f cargs cobjs Post ∧
    (sel.Nodup ∧ cobjs.length = sel.length ∧ (∀ (j : Nat) o, cobjs[j]? = some o → σ.objs[sel.getD j 0]? = some (renO (rho σ.objs.length sel) o)) ∧
      cargs.length = args.length ∧ (∀ (j : Nat) c d, cargs[j]? = some c → args[j]? = some d → ArgR σ (· ∈ sel) (rho σ.objs.length sel) snap c d)) ∧
    ∀ res cobjs', Post res cobjs' → (snap = true → flat res = true ∧ ∀ o ∈ cobjs', flatO o) ∧
      K (ren (rho σ.objs.length sel) res) { σ with objs := mergeO σ.objs sel (cobjs'.map (renO (rho σ.objs.length sel))) }

theorem call_soundR {σ : St} {γ : Cx} (h : Sim σ γ) {f : FuncId} {args : List AV} {argv : Array Value} (hsz : argv.size = args.length) (harg : ∀ (j : Nat) d, args[j]? = some d → RelV σ.objs γ.w γ.Z γ.blk d (argv.getD j Go.undef))
    {K : AV → St → Prop} (hc : callWR P f args σ K) :
    Calls P f argv γ.w (fun e w' => ∃ cv v σ' γ', e = .returned cv ∧ γ'.w = w' ∧ γ'.tmps = γ.tmps ∧ Sim σ' γ' ∧ Fr σ.objs γ σ'.objs γ' ∧ RelV σ'.objs γ'.w γ'.Z γ'.blk v cv ∧ K v σ' ∧ σ'.env = σ.env) := by
  obtain ⟨sel, snap, cargs, cobjs, Post, hH, ⟨hnd, hcl, hco, hal, hargs⟩, hKP⟩ := hc
  have hsl : ∀ i ∈ sel, i < σ.objs.length := by
    intro i hi
    obtain ⟨j, hj, rfl⟩ := exists_sel hi
    have : j < cobjs.length := by omega
    exact (List.getElem?_eq_some_iff.1 (hco j cobjs[j] (by simp [this]))).1
  let ρ := rho σ.objs.length sel
  let S : Nat → Prop := fun b => snap = true ∧ ∃ id o cap, id ∉ sel ∧ Live σ.objs id ∧ γ.blk id = some (b, o, cap)
  let γc : Cx := { w := γ.w, tmps := argv, Z := fun b => γ.Z b ∨ S b, blk := fun j => if j < sel.length then γ.blk (sel.getD j 0) else none }
  have hdown : ∀ j x, σ.objs[ρ j]? = some x → ∃ o, cobjs[j]? = some o ∧ (o = .gone ∨ (x = renO ρ o ∧ γc.blk j = γ.blk (ρ j))) := by
    intro j x hx
    obtain ⟨hj, hr⟩ := rho_lt hsl (List.getElem?_eq_some_iff.1 hx).1
    have hjc : j < cobjs.length := by omega
    have := hco j cobjs[j] (by simp [hjc])
    refine ⟨cobjs[j], by simp [hjc], .inr ⟨?_, ?_⟩⟩
    · have hx' : σ.objs[rho σ.objs.length sel j]? = some x := hx
      rw [hr, this] at hx'
      simpa using hx'.symm
    · show (if j < sel.length then γ.blk (sel.getD j 0) else none) = γ.blk (rho σ.objs.length sel j)
      rw [if_pos hj, hr]
  have hzc : ∀ b, γ.Z b → γc.Z b := fun b hb => .inl hb
  have hclive : ∀ j, Live cobjs j → Live σ.objs (sel.getD j 0) ∧ j < sel.length := by
    rintro j ⟨o, ho, hg⟩
    have hj := (List.getElem?_eq_some_iff.1 ho).1
    exact ⟨⟨_, hco j o ho, fun e => hg (renO_gone.1 e)⟩, by omega⟩
  have hblt := fun {i b o c} => h.blt (i := i) (b := b) (o := o) (c := c)
  have hsimc : Sim ⟨fun k => cargs.getD k .undef, cobjs⟩ γc := by
    refine ⟨fun k => ?_, ?_, ?_, ?_, ?_, fun g => globA_rel (h.gl g) fun b hb => ⟨hzc b hb, rfl⟩⟩
    · rcases Nat.lt_or_ge k cargs.length with hk | hk
      · have e : cargs.getD k .undef = cargs[k] := by simp [hk]
        show RelV cobjs γc.w γc.Z γc.blk (cargs.getD k .undef) _
        rw [e]
        have hka : k < args.length := by omega
        exact (hargs k cargs[k] args[k] (by simp [hk]) (by simp [hka])).rel h hzc rfl (fun hs id b o cap hid hl hb => .inr ⟨hs, id, o, cap, hid, hl, hb⟩) hdown _ (harg k _ (by simp [hka]))
      · have e : cargs.getD k .undef = .undef := by simp [hk]
        show RelV cobjs γc.w γc.Z γc.blk (cargs.getD k .undef) _
        rw [e]
        exact .undef _
    · intro j o ho
      have hj := (List.getElem?_eq_some_iff.1 ho).1
      have hjs : j < sel.length := by rw [← hcl]; exact hj
      have hob := h.obs _ _ (hco j o ho)
      have hb : γc.blk j = γ.blk (sel.getD j 0) := by show (if j < sel.length then _ else _) = _; rw [if_pos hjs]
      cases o with
      | gone => trivial
      | var cells =>
        obtain ⟨b, cap, cur, t, h1, h2, h3, h4⟩ := hob
        exact ⟨b, cap, cur, t, hb.trans h1, h2, by simpa using h3, fun c v hv => (h4 c (ren ρ v) (by simp [hv]; rfl)).down hzc hdown v rfl⟩
      | mp ag L =>
        obtain ⟨b, f, h1, h2, h3, h4⟩ := hob
        refine ⟨b, f, hb.trans h1, ?_, fun p hp => h3 (p.1, ren ρ p.2) (List.mem_map_of_mem (f := fun p : List Int × AV => (p.1, ren ρ p.2)) hp), fun j p hp => (h4 j (p.1, ren ρ p.2) (by simp only [List.getElem?_map, hp]; rfl)).down hzc hdown p.2 rfl⟩
        rw [mpE_map, List.length_map] at h2; exact h2
      | arr sz rows =>
        obtain ⟨h0, hr, hob⟩ := hob
        refine ⟨h0, fun row hrow => by simpa using hr (row.map (ren ρ)) (List.mem_map_of_mem hrow), ?_⟩
        rcases hob with ⟨h1, h2⟩ | ⟨b, o, cap, cur, t, h1, h2, h3, h4, h5, h6⟩
        · exact .inl ⟨hb.trans h1, by simpa using h2⟩
        · refine .inr ⟨b, o, cap, cur, t, hb.trans h1, h2, h3, by simpa using h4, h5, fun r c v hv => (h6 r c (ren ρ v) ?_).down hzc hdown v rfl⟩
          simp only [cellAt, List.getElem?_map] at hv ⊢
          cases hrr : rows[r]? with
          | none => simp [hrr] at hv
          | some row => simp [hrr] at hv ⊢; exact ⟨v, hv, rfl⟩
    · intro i j b o c o' c' hi hj hbi hbj
      obtain ⟨h1, h2⟩ := hclive i hi
      obtain ⟨h3, h4⟩ := hclive j hj
      have e1 : γc.blk i = γ.blk (sel.getD i 0) := by show (if i < sel.length then _ else _) = _; rw [if_pos h2]
      have e2 : γc.blk j = γ.blk (sel.getD j 0) := by show (if j < sel.length then _ else _) = _; rw [if_pos h4]
      exact nodup_getD hnd h2 h4 (h.inj _ _ b o c o' c' h1 h3 (e1 ▸ hbi) (e2 ▸ hbj))
    · rintro b ⟨i, o, c, hi, hb⟩ hz
      obtain ⟨h1, h2⟩ := hclive i hi
      have e1 : γc.blk i = γ.blk (sel.getD i 0) := by show (if i < sel.length then _ else _) = _; rw [if_pos h2]
      rw [e1] at hb
      rcases hz with hz | ⟨_, id, o', cap', hid, hl, hb'⟩
      · exact h.nz b ⟨_, o, c, h1, hb⟩ hz
      · have := h.inj _ _ b o c o' cap' h1 hl hb hb'
        exact hid (this ▸ getD_mem h2)
    · rintro b (hb | ⟨_, id, o, cap, _, hl, hb⟩)
      · exact h.zlt b hb
      · exact hblt hl hb
  have hcall := hH.2 γc (by show argv.size = _; omega) hsimc
  refine hcall.mono ?_
  rintro e w' ⟨res, cobjs', cv, γ', hpost, rfl, rfl, htm, hs', hf'⟩
  obtain ⟨hflat, hK⟩ := hKP res cobjs' hpost
  -- the caller behind the call
  have hlen' : sel.length ≤ cobjs'.length := by have := hf'.len; omega
  let new := cobjs'.map (renO ρ)
  have hnl : sel.length ≤ new.length := by simpa [new] using hlen'
  let objs'' := mergeO σ.objs sel new
  let γ'' : Cx := { w := γ'.w, tmps := γ.tmps, Z := fun b => γ'.Z b ∧ ¬ S b, blk := fun i => if i < σ.objs.length then γ.blk i else γ'.blk (sel.length + (i - σ.objs.length)) }
  have hup : ∀ j o, cobjs'[j]? = some o → objs''[ρ j]? = some (renO ρ o) ∧ (o ≠ .gone → γ''.blk (ρ j) = γ'.blk j) := by
    intro j o ho
    by_cases hj : j < sel.length
    · have e : ρ j = sel.getD j 0 := by show rho _ _ _ = _; simp only [rho]; rw [if_pos hj]
      have hmem := hsl _ (getD_mem hj)
      refine ⟨?_, fun hg => ?_⟩
      · rw [e]
        show (mergeO σ.objs sel new)[sel.getD j 0]? = _
        rw [mergeO_sel sel σ.objs new hnl hnd hsl j hj]
        simp [new, ho]
      · rw [e]
        show (if sel.getD j 0 < σ.objs.length then _ else _) = _
        rw [if_pos hmem]
        have := (hf'.old j (by omega) ⟨o, ho, hg⟩).1
        rw [this]
        show _ = if j < sel.length then _ else _
        rw [if_pos hj]
    · have e : ρ j = σ.objs.length + (j - sel.length) := by show rho _ _ _ = _; simp only [rho]; rw [if_neg hj]
      have e2 : sel.length + (j - sel.length) = j := by omega
      refine ⟨?_, fun hg => ?_⟩
      · rw [e]
        show (mergeO σ.objs sel new)[_]? = _
        rw [mergeO_new sel σ.objs new hnl, e2]
        simp [new, ho]
      · rw [e]
        show (if σ.objs.length + (j - sel.length) < σ.objs.length then _ else γ'.blk (sel.length + (σ.objs.length + (j - sel.length) - σ.objs.length))) = _
        rw [if_neg (by omega)]
        congr 1; omega
  have hSz : ∀ b, S b → ¬ γ.Z b := by
    rintro b ⟨_, id, o, cap, _, hl, hb⟩
    exact h.nz b ⟨id, o, cap, hl, hb⟩
  have hownc : ∀ b, Owned cobjs γc.blk b → ∃ i ∈ sel, ∃ o cap, Live σ.objs i ∧ γ.blk i = some (b, o, cap) := by
    rintro b ⟨j, o, c, hl, hb⟩
    obtain ⟨h1, h2⟩ := hclive j hl
    have e1 : γc.blk j = γ.blk (sel.getD j 0) := by show (if j < sel.length then _ else _) = _; rw [if_pos h2]
    exact ⟨_, getD_mem h2, o, c, h1, e1 ▸ hb⟩
  have hkeep : ∀ i, i ∉ sel → Live σ.objs i → ∀ b o c, γ.blk i = some (b, o, c) → γ'.w.heap[b]? = γ.w.heap[b]? := by
    intro i hi hl b o c hb
    refine hf'.keep b (hblt hl hb) (fun ho => ?_)
    obtain ⟨i', hi', o', c', hl', hb'⟩ := hownc b ho
    have := h.inj _ _ b o c o' c' hl hl' hb hb'
    exact hi (this ▸ hi')
  -- cells and slots of the caller's own
  have hkeepR : ∀ v cv, RelV σ.objs γ.w γ.Z γ.blk v cv → RelV objs'' γ''.w γ''.Z γ''.blk v cv := by
    intro v cv hv
    refine hv.mono (fun b hb => ⟨⟨hf'.z0 b (hzc b hb), fun hs => hSz b hs hb⟩, ?_⟩) (fun i o ho => ?_)
    · refine hf'.keep b (h.zlt b hb) (fun ho => ?_)
      obtain ⟨i', _, o', c', hl', hb'⟩ := hownc b ho
      exact h.nz b ⟨i', o', c', hl', hb'⟩ hb
    · have hi := (List.getElem?_eq_some_iff.1 ho).1
      have hbk : γ''.blk i = γ.blk i := by show (if i < σ.objs.length then _ else _) = _; rw [if_pos hi]
      by_cases his : i ∈ sel
      · obtain ⟨j, hj, rfl⟩ := exists_sel his
        have hjc : j < cobjs'.length := by omega
        have hob'' : objs''[sel.getD j 0]? = some (renO ρ cobjs'[j]) := by
          show (mergeO σ.objs sel new)[sel.getD j 0]? = _
          rw [mergeO_sel sel σ.objs new hnl hnd hsl j hj]
          simp [new, hjc]
        by_cases hg : cobjs'[j] = .gone
        · left; rw [hob'', hg]; rfl
        · right
          refine ⟨hbk, _, hob'', ?_⟩
          obtain ⟨_, x, x', hx, hx', hlk⟩ := hf'.old j (by omega) ⟨cobjs'[j], by simp [hjc], hg⟩
          have e1 : cobjs'[j] = x' := by simpa [hjc] using hx'
          have e2 := hco j x hx
          rw [ho] at e2
          simp at e2
          rw [e1, e2]
          exact Ob.like_ren2 hlk
      · have hob'' : objs''[i]? = some o := by
          show (mergeO σ.objs sel new)[i]? = _
          rw [mergeO_other sel σ.objs new hnl i his hi]; exact ho
        by_cases hg : o = .gone
        · subst hg; exact .inl hob''
        · exact .inr ⟨hbk, o, hob'', Ob.like_refl hg⟩
  -- what comes from the callee
  have hupR : ∀ v cv, RelV cobjs' γ'.w γ'.Z γ'.blk v cv → (snap = true → flat v = true) → RelV objs'' γ''.w γ''.Z γ''.blk (ren ρ v) cv := by
    intro v cv hv hfl
    by_cases hsn : snap = true
    · exact (hv.flatZ (Z' := γ''.Z) (hfl hsn)).up (fun b hb => hb) hup
    · exact hv.up (fun b hb => ⟨hb, fun hs => hsn hs.1⟩) hup
  have hl2 : ∀ i, Live objs'' i → (i < σ.objs.length ∧ i ∉ sel ∧ Live σ.objs i ∧ γ''.blk i = γ.blk i) ∨ ∃ j, Live cobjs' j ∧ i = ρ j ∧ γ''.blk i = γ'.blk j := by
    rintro i ⟨o, ho, hg⟩
    have hlen := (List.getElem?_eq_some_iff.1 ho).1
    have hml : objs''.length = σ.objs.length + (new.length - sel.length) := mergeO_length sel σ.objs new hnl
    have hnn : new.length = cobjs'.length := by simp [new]
    rcases Nat.lt_or_ge i σ.objs.length with hi | hi
    · by_cases his : i ∈ sel
      · right
        obtain ⟨j, hj, rfl⟩ := exists_sel his
        have hjc : j < cobjs'.length := by omega
        have e : ρ j = sel.getD j 0 := by show rho _ _ _ = _; simp only [rho]; rw [if_pos hj]
        have hx := hup j cobjs'[j] (by simp [hjc])
        rw [e] at hx
        rw [ho] at hx
        simp only [Option.some.injEq] at hx
        have hg' : cobjs'[j] ≠ .gone := by intro h0; apply hg; rw [hx.1, h0]; rfl
        exact ⟨j, ⟨_, by simp [hjc], hg'⟩, e.symm, hx.2 hg'⟩
      · left
        have : objs''[i]? = σ.objs[i]? := mergeO_other sel σ.objs new hnl i his hi
        rw [this] at ho
        exact ⟨hi, his, ⟨o, ho, hg⟩, by show (if i < σ.objs.length then _ else _) = _; rw [if_pos hi]⟩
    · right
      have hjc : sel.length + (i - σ.objs.length) < cobjs'.length := by omega
      have e : ρ (sel.length + (i - σ.objs.length)) = i := by
        show rho _ _ _ = _
        simp only [rho]
        rw [if_neg (by omega)]; omega
      have hx := hup _ _ (show cobjs'[sel.length + (i - σ.objs.length)]? = some cobjs'[sel.length + (i - σ.objs.length)] by simp [hjc])
      rw [e] at hx
      rw [ho] at hx
      simp only [Option.some.injEq] at hx
      have hg' : cobjs'[sel.length + (i - σ.objs.length)] ≠ .gone := by intro h0; apply hg; rw [hx.1, h0]; rfl
      exact ⟨_, ⟨_, by simp [hjc], hg'⟩, e.symm, hx.2 hg'⟩
  have hownnew : ∀ j b o c, Live cobjs' j → γ'.blk j = some (b, o, c) → (∃ i ∈ sel, ∃ o cap, Live σ.objs i ∧ γ.blk i = some (b, o, cap)) ∨ γ.w.heap.size ≤ b := by
    intro j b o c hl hb
    rcases hf'.own b ⟨j, o, c, hl, hb⟩ with h1 | h1
    · exact .inl (hownc b h1)
    · exact .inr h1
  have hsim'' : Sim ⟨σ.env, objs''⟩ γ'' := by
    refine ⟨fun k => hkeepR _ _ (h.slots k), ?_, ?_, ?_, ?_, fun g => hkeepR _ _ (h.gl g)⟩
    · intro i o ho
      by_cases hgo : o = .gone
      · subst hgo; trivial
      rcases hl2 i ⟨o, ho, hgo⟩ with ⟨hi, his, hl, hbk⟩ | ⟨j, ⟨x, hx, hgx⟩, rfl, hbk⟩
      · have he : objs''[i]? = σ.objs[i]? := mergeO_other sel σ.objs new hnl i his hi
        have ho' : σ.objs[i]? = some o := by rw [← he]; exact ho
        exact (h.obs i o ho').mono hkeepR hbk (fun b o c hb => hkeep i his hl b o c hb)
      · have hx2 := (hup j x hx).1
        have e : o = renO ρ x := by
          have : objs''[ρ j]? = some o := ho
          rw [hx2] at this; simpa using this.symm
        subst e
        have hob := hs'.obs j x hx
        have hfl : snap = true → flatO x := fun hs => (hflat hs).2 x (List.mem_of_getElem? hx)
        cases x with
        | gone => trivial
        | var cells =>
          obtain ⟨b, cap, cur, t, h1, h2, h3, h4⟩ := hob
          refine ⟨b, cap, cur, t, hbk.trans h1, h2, by simpa using h3, fun c v hv => ?_⟩
          simp only [List.getElem?_map, Option.map_eq_some_iff] at hv
          obtain ⟨y, hy, rfl⟩ := hv
          exact hupR _ _ (h4 c y hy) (fun hs => hfl hs y (List.mem_of_getElem? hy))
        | mp ag L =>
          obtain ⟨b, f, h1, h2, h3, h4⟩ := hob
          refine ⟨b, f, hbk.trans h1, ?_, fun p hp => ?_, fun j p hp => ?_⟩
          · rw [mpE_map, List.length_map]; exact h2
          · obtain ⟨y, hy, rfl⟩ := List.mem_map.1 hp
            exact h3 y hy
          · simp only [List.getElem?_map, Option.map_eq_some_iff] at hp
            obtain ⟨y, hy, rfl⟩ := hp
            exact hupR _ _ (h4 j y hy) (fun hs => hfl hs y (List.mem_of_getElem? hy))
        | arr sz rows =>
          obtain ⟨h0, hr, hob⟩ := hob
          refine ⟨h0, ?_, ?_⟩
          · intro row hrow
            simp only [List.mem_map] at hrow
            obtain ⟨y, hy, rfl⟩ := hrow
            simpa using hr y hy
          · rcases hob with ⟨h1, h2⟩ | ⟨b, o, cap, cur, t, h1, h2, h3, h4, h5, h6⟩
            · exact .inl ⟨hbk.trans h1, by simpa using h2⟩
            · refine .inr ⟨b, o, cap, cur, t, hbk.trans h1, h2, h3, by simpa using h4, h5, fun r c v hv => ?_⟩
              simp only [cellAt, List.getElem?_map] at hv
              cases hrr : rows[r]? with
              | none => simp [hrr] at hv
              | some row =>
                simp only [hrr, Option.map_some, Option.bind_some, List.getElem?_map, Option.map_eq_some_iff] at hv
                obtain ⟨y, hy, rfl⟩ := hv
                exact hupR _ _ (h6 r c y (by simp [cellAt, hrr, hy])) (fun hs => hfl hs row (List.mem_of_getElem? hrr) y (List.mem_of_getElem? hy))
    · intro i j b o c o' c' hi hj hbi hbj
      rcases hl2 i hi with ⟨hil, his, hli, hbk⟩ | ⟨ji, hji, rfl, hbk⟩ <;> rcases hl2 j hj with ⟨hjl, hjs, hlj, hbk'⟩ | ⟨jj, hjj, rfl, hbk'⟩
      · exact h.inj i j b o c o' c' hli hlj (hbk ▸ hbi) (hbk' ▸ hbj)
      · rw [hbk] at hbi
        rw [hbk'] at hbj
        rcases hownnew jj b o' c' hjj hbj with ⟨i', hi', o1, c1, hl', hb'⟩ | hge
        · exact absurd (h.inj i i' b o c o1 c1 hli hl' hbi hb') (fun e => his (e ▸ hi'))
        · have := hblt hli hbi; omega
      · rw [hbk] at hbi
        rw [hbk'] at hbj
        rcases hownnew ji b o c hji hbi with ⟨i', hi', o1, c1, hl', hb'⟩ | hge
        · exact absurd (h.inj j i' b o' c' o1 c1 hlj hl' hbj hb') (fun e => hjs (e ▸ hi'))
        · have := hblt hlj hbj; omega
      · rw [hbk] at hbi
        rw [hbk'] at hbj
        rw [hs'.inj ji jj b o c o' c' hji hjj hbi hbj]
    · rintro b ⟨i, o, c, hi, hb⟩ ⟨hz, hns⟩
      rcases hl2 i hi with ⟨hil, his, hli, hbk⟩ | ⟨ji, hji, rfl, hbk⟩
      · rw [hbk] at hb
        rcases hf'.z1 b hz with (h1 | h1) | h1 | h1
        · exact h.nz b ⟨i, o, c, hli, hb⟩ h1
        · exact hns h1
        · obtain ⟨i', hi', o1, c1, hl', hb'⟩ := hownc b h1
          exact his ((h.inj i i' b o c o1 c1 hli hl' hb hb') ▸ hi')
        · have := hblt hli hb
          have h1' : γ.w.heap.size ≤ b := h1
          omega
      · rw [hbk] at hb
        exact hs'.nz b ⟨ji, o, c, hji, hb⟩ hz
    · rintro b ⟨hz, _⟩
      exact hs'.zlt b hz
  refine ⟨cv, ren ρ res, ⟨σ.env, objs''⟩, γ'', rfl, rfl, rfl, hsim'', ?_, ?_, hK, rfl⟩
  · refine ⟨hf'.eos, hf'.tape, hf'.output, hf'.size, ?_, ?_, ?_, ?_, ?_, ?_, hf'.drawn⟩
    · intro b hb hno
      refine hf'.keep b hb (fun ho => hno ?_)
      obtain ⟨i', _, o1, c1, hl', hb'⟩ := hownc b ho
      exact ⟨i', o1, c1, hl', hb'⟩
    · intro b hb
      exact ⟨hf'.z0 b (hzc b hb), fun hs => hSz b hs hb⟩
    · rintro b ⟨hz, hns⟩
      rcases hf'.z1 b hz with (h1 | h1) | h1 | h1
      · exact .inl h1
      · exact absurd h1 hns
      · obtain ⟨i', _, o1, c1, hl', hb'⟩ := hownc b h1
        exact .inr (.inl ⟨i', o1, c1, hl', hb'⟩)
      · exact .inr (.inr h1)
    · rintro b ⟨i, o, c, hi, hb⟩
      rcases hl2 i hi with ⟨hil, his, hli, hbk⟩ | ⟨ji, hji, rfl, hbk⟩
      · rw [hbk] at hb; exact .inl ⟨i, o, c, hli, hb⟩
      · rw [hbk] at hb
        rcases hownnew ji b o c hji hb with ⟨i', _, o1, c1, hl', hb'⟩ | hge
        · exact .inl ⟨i', o1, c1, hl', hb'⟩
        · exact .inr hge
    · show σ.objs.length ≤ (mergeO σ.objs sel new).length
      rw [mergeO_length sel σ.objs new hnl]; omega
    · rintro i hi ⟨o, ho, hg⟩
      refine ⟨by show (if i < σ.objs.length then _ else _) = _; rw [if_pos hi], ?_⟩
      by_cases his : i ∈ sel
      · obtain ⟨j, hj, rfl⟩ := exists_sel his
        have hjc : j < cobjs'.length := by omega
        have hob'' : objs''[sel.getD j 0]? = some (renO ρ cobjs'[j]) := by
          show (mergeO σ.objs sel new)[sel.getD j 0]? = _
          rw [mergeO_sel sel σ.objs new hnl hnd hsl j hj]
          simp [new, hjc]
        have ho2 : objs''[sel.getD j 0]? = some o := ho
        rw [hob''] at ho2
        simp only [Option.some.injEq] at ho2
        have hg' : cobjs'[j] ≠ .gone := by intro h0; apply hg; rw [← ho2, h0]; rfl
        obtain ⟨_, x, x', hx, hx', hlk⟩ := hf'.old j (by omega) ⟨cobjs'[j], by simp [hjc], hg'⟩
        have e1 : cobjs'[j] = x' := by simpa [hjc] using hx'
        refine ⟨renO ρ x, o, hco j x hx, ho, ?_⟩
        rw [← ho2, e1]
        cases x <;> cases x' <;> simp_all [Ob.like, renO]
      · have he : objs''[i]? = σ.objs[i]? := mergeO_other sel σ.objs new hnl i his hi
        have ho' : σ.objs[i]? = some o := by rw [← he]; exact ho
        exact ⟨o, o, ho', ho, Ob.like_refl hg⟩
  · have := hs'.slots 0
    rw [htm] at this
    exact hupR res cv (by simpa using this) (fun hs => (hflat hs).1)




/-- a contract with one result is such a contract -/
theorem Holds.r {f : FuncId} {args : List AV} {objs : List Ob} {res : AV} {objs' : List Ob} (h : Holds P f args objs res objs') : HoldsR P f args objs (fun r os => r = res ∧ os = objs') :=
  ⟨h.1, fun γ hsz hs => (h.2 γ hsz hs).mono fun _ _ ⟨cv, γ', h1, h2, h3, h4, h5⟩ => ⟨res, objs', cv, γ', ⟨rfl, rfl⟩, h1, h2, h3, h4, h5⟩⟩
theorem callW.r {f : FuncId} {args : List AV} {σ : St} {K : AV → St → Prop} (h : callW P f args σ K) : callWR P f args σ K := by
  obtain ⟨sel, snap, cargs, cobjs, res, cobjs', h1, ⟨h2, h3, h4, h5, h6, h7⟩, h8⟩ := h
  exact ⟨sel, snap, cargs, cobjs, _, h1.r, ⟨h2, h3, h4, h5, h6⟩, fun r os ⟨e1, e2⟩ => by subst e1; subst e2; exact ⟨h7, h8⟩⟩
theorem call_sound {σ : St} {γ : Cx} (h : Sim σ γ) {f : FuncId} {args : List AV} {argv : Array Value} (hsz : argv.size = args.length) (harg : ∀ (j : Nat) d, args[j]? = some d → RelV σ.objs γ.w γ.Z γ.blk d (argv.getD j Go.undef))
    {K : AV → St → Prop} (hc : callW P f args σ K) :
    Calls P f argv γ.w (fun e w' => ∃ cv v σ' γ', e = .returned cv ∧ γ'.w = w' ∧ γ'.tmps = γ.tmps ∧ Sim σ' γ' ∧ Fr σ.objs γ σ'.objs γ' ∧ RelV σ'.objs γ'.w γ'.Z γ'.blk v cv ∧ K v σ' ∧ σ'.env = σ.env) :=
  call_soundR h hsz harg hc.r
end Go.Am
end
section
namespace Go.Am
variable {P : Program}

/-- SELECTION: objects are dropped, renumbered, given up; with snap what is not kept may be read from now on, and never written -/
theorem Sim.select {σ : St} {γ : Cx} (h : Sim σ γ) (sel : List Nat) (snap : Bool) (cobjs : List Ob) (hnd : sel.Nodup) (hcl : cobjs.length = sel.length)
    (hco : ∀ (j : Nat) o, cobjs[j]? = some o → o = .gone ∨ σ.objs[sel.getD j 0]? = some (renO (rho σ.objs.length sel) o)) (hsl : ∀ i ∈ sel, i < σ.objs.length)
    (e : Nat → AV) (tm : Array Value)
    (he : ∀ k, e k = .undef ∨ ∃ d, ArgR σ (fun id => ∃ j, j < sel.length ∧ sel.getD j 0 = id ∧ cobjs[j]? ≠ some .gone) (rho σ.objs.length sel) snap (e k) d ∧ RelV σ.objs γ.w γ.Z γ.blk d (tm.getD k Go.undef)) :
    ∃ γ', γ'.w = γ.w ∧ γ'.tmps = tm ∧ Sim ⟨e, cobjs⟩ γ' ∧ ((∀ i, i < cobjs.length → γ'.blk i = γ.blk (sel.getD i 0)) ∧ (∀ b, γ.Z b → γ'.Z b) ∧ (∀ b, γ'.Z b → γ.Z b ∨ Owned σ.objs γ.blk b) ∧
      ∀ i, Live cobjs i → Live σ.objs (sel.getD i 0) ∧ ∃ o, cobjs[i]? = some o ∧ σ.objs[sel.getD i 0]? = some (renO (rho σ.objs.length sel) o)) := by
  let ρ := rho σ.objs.length sel
  let kp : Nat → Prop := fun id => ∃ j, j < sel.length ∧ sel.getD j 0 = id ∧ cobjs[j]? ≠ some .gone
  let S : Nat → Prop := fun b => snap = true ∧ ∃ id o cap, ¬ kp id ∧ Live σ.objs id ∧ γ.blk id = some (b, o, cap)
  let γc : Cx := { w := γ.w, tmps := tm, Z := fun b => γ.Z b ∨ S b, blk := fun j => if j < sel.length then γ.blk (sel.getD j 0) else none }
  have hdown : ∀ j x, σ.objs[ρ j]? = some x → ∃ o, cobjs[j]? = some o ∧ (o = .gone ∨ (x = renO ρ o ∧ γc.blk j = γ.blk (ρ j))) := by
    intro j x hx
    obtain ⟨hj, hr⟩ := rho_lt hsl (List.getElem?_eq_some_iff.1 hx).1
    have hjc : j < cobjs.length := by omega
    refine ⟨cobjs[j], by simp [hjc], ?_⟩
    rcases hco j cobjs[j] (by simp [hjc]) with hg | this
    · exact .inl hg
    · right
      refine ⟨?_, ?_⟩
      · have hx' : σ.objs[rho σ.objs.length sel j]? = some x := hx
        rw [hr, this] at hx'
        simpa using hx'.symm
      · show (if j < sel.length then γ.blk (sel.getD j 0) else none) = γ.blk (rho σ.objs.length sel j)
        rw [if_pos hj, hr]
  have hzc : ∀ b, γ.Z b → γc.Z b := fun b hb => .inl hb
  have hclive : ∀ j, Live cobjs j → Live σ.objs (sel.getD j 0) ∧ j < sel.length ∧ kp (sel.getD j 0) ∧ ∃ o, cobjs[j]? = some o ∧ σ.objs[sel.getD j 0]? = some (renO ρ o) := by
    rintro j ⟨o, ho, hg⟩
    have hj := (List.getElem?_eq_some_iff.1 ho).1
    rcases hco j o ho with h' | h'
    · exact absurd h' hg
    · exact ⟨⟨_, h', fun e => hg (renO_gone.1 e)⟩, by omega, ⟨j, by omega, rfl, by rw [ho]; simpa using hg⟩, o, ho, h'⟩
  have hbe : ∀ j, j < sel.length → γc.blk j = γ.blk (sel.getD j 0) := fun j hj => by show (if j < sel.length then _ else _) = _; rw [if_pos hj]
  have hsimc : Sim ⟨e, cobjs⟩ γc := by
    refine ⟨fun k => ?_, ?_, ?_, ?_, ?_, fun g => globA_rel (h.gl g) fun b hb => ⟨hzc b hb, rfl⟩⟩
    · rcases he k with h0 | ⟨d, hd, hr⟩
      · show RelV cobjs γc.w γc.Z γc.blk (e k) _
        rw [h0]; exact .undef _
      · exact hd.rel h hzc rfl (fun hs id b o cap hid hl hb => .inr ⟨hs, id, o, cap, hid, hl, hb⟩) hdown _ hr
    · intro j o ho
      by_cases hgo : o = .gone
      · subst hgo; trivial
      obtain ⟨_, hjs, _, o', ho', hob'⟩ := hclive j ⟨o, ho, hgo⟩
      have : o = o' := by
        have h1 : cobjs[j]? = some o := ho
        rw [ho'] at h1; simpa using h1.symm
      subst this
      have hob := h.obs _ _ hob'
      have hb := hbe j hjs
      cases o with
      | gone => trivial
      | var cells =>
        obtain ⟨b, cap, cur, t, h1, h2, h3, h4⟩ := hob
        exact ⟨b, cap, cur, t, hb.trans h1, h2, by simpa using h3, fun c v hv => (h4 c (ren ρ v) (by simp only [List.getElem?_map, hv]; rfl)).down hzc hdown v rfl⟩
      | mp ag L =>
        obtain ⟨b, f, h1, h2, h3, h4⟩ := hob
        refine ⟨b, f, hb.trans h1, ?_, fun p hp => h3 (p.1, ren ρ p.2) (List.mem_map_of_mem (f := fun p : List Int × AV => (p.1, ren ρ p.2)) hp), fun j p hp => (h4 j (p.1, ren ρ p.2) (by simp only [List.getElem?_map, hp]; rfl)).down hzc hdown p.2 rfl⟩
        rw [mpE_map, List.length_map] at h2; exact h2
      | arr sz rows =>
        obtain ⟨h0, hr, hob⟩ := hob
        refine ⟨h0, fun row hrow => by simpa using hr (row.map (ren ρ)) (List.mem_map_of_mem hrow), ?_⟩
        rcases hob with ⟨h1, h2⟩ | ⟨b, o, cap, cur, t, h1, h2, h3, h4, h5, h6⟩
        · exact .inl ⟨hb.trans h1, by simpa using h2⟩
        · refine .inr ⟨b, o, cap, cur, t, hb.trans h1, h2, h3, by simpa using h4, h5, fun r c v hv => (h6 r c (ren ρ v) ?_).down hzc hdown v rfl⟩
          simp only [cellAt, List.getElem?_map] at hv ⊢
          cases hrr : rows[r]? with
          | none => simp [hrr] at hv
          | some row => simp [hrr] at hv ⊢; exact ⟨v, hv, rfl⟩
    · intro i j b o c o' c' hi hj hbi hbj
      obtain ⟨h1, h2, _⟩ := hclive i hi
      obtain ⟨h3, h4, _⟩ := hclive j hj
      exact nodup_getD hnd h2 h4 (h.inj _ _ b o c o' c' h1 h3 (hbe i h2 ▸ hbi) (hbe j h4 ▸ hbj))
    · rintro b ⟨i, o, c, hi, hb⟩ hz
      obtain ⟨h1, h2, h3, _⟩ := hclive i hi
      rw [hbe i h2] at hb
      rcases hz with hz | ⟨_, id, o', cap', hid, hl, hb'⟩
      · exact h.nz b ⟨_, o, c, h1, hb⟩ hz
      · have := h.inj _ _ b o c o' cap' h1 hl hb hb'
        exact hid (this ▸ h3)
    · rintro b (hb | ⟨_, id, o, cap, _, hl, hb⟩)
      · exact h.zlt b hb
      · exact h.blt hl hb
  refine ⟨γc, rfl, rfl, hsimc, fun i hi => hbe i (by omega), hzc, ?_, ?_⟩
  · rintro b (hb | ⟨_, id, o, cap, _, hl, hb⟩)
    · exact .inl hb
    · exact .inr ⟨id, o, cap, hl, hb⟩
  · intro i hi
    obtain ⟨h1, h2, _, h4⟩ := hclive i hi
    exact ⟨h1, h4⟩

theorem Ob.like_renO {ρ : Nat → Nat} {x o : Ob} (h : x.like (renO ρ o)) : x.like o := by
  cases x <;> cases o <;> simp [Ob.like, renO] at h ⊢ <;> exact h

/-- the frame behind a selection that leaves the activation's first objects where they are -/
theorem Fr.select {os : List Ob} {γ0 γ γ' : Cx} {σ : St} (hf : Fr os γ0 σ.objs γ) {sel : List Nat} {cobjs : List Ob} (hn : os.length ≤ sel.length) (hcl : cobjs.length = sel.length)
    (hid : ∀ i, i < os.length → sel.getD i 0 = i) (hw : γ'.w = γ.w)
    (h : (∀ i, i < cobjs.length → γ'.blk i = γ.blk (sel.getD i 0)) ∧ (∀ b, γ.Z b → γ'.Z b) ∧ (∀ b, γ'.Z b → γ.Z b ∨ Owned σ.objs γ.blk b) ∧
      ∀ i, Live cobjs i → Live σ.objs (sel.getD i 0) ∧ ∃ o, cobjs[i]? = some o ∧ σ.objs[sel.getD i 0]? = some (renO (rho σ.objs.length sel) o)) : Fr os γ0 cobjs γ' := by
  obtain ⟨h1, h2, h3, h4⟩ := h
  refine ⟨by rw [hw]; exact hf.eos, by rw [hw]; exact hf.tape, by rw [hw]; exact hf.output, by rw [hw]; exact hf.size, by rw [hw]; exact hf.keep, fun b hb => h2 b (hf.z0 b hb), ?_, ?_, by omega, ?_, by rw [hw]; exact hf.drawn⟩
  · intro b hb
    rcases h3 b hb with h | h
    · exact hf.z1 b h
    · rcases hf.own b h with h | h
      · exact .inr (.inl h)
      · exact .inr (.inr h)
  · rintro b ⟨i, o, c, hi, hb⟩
    have hlt := hi.lt
    rw [h1 i hlt] at hb
    exact hf.own b ⟨_, o, c, (h4 i hi).1, hb⟩
  · intro i hi hl
    obtain ⟨h5, o, ho, ho'⟩ := h4 i hl
    rw [hid i hi] at h5 ho'
    obtain ⟨h6, x, x', hx, hx', hk⟩ := hf.old i hi h5
    refine ⟨by rw [h1 i hl.lt, hid i hi]; exact h6, x, o, hx, ho, ?_⟩
    rw [ho'] at hx'
    simp only [Option.some.injEq] at hx'
    rw [← hx'] at hk
    exact Ob.like_renO hk

/-- the state of an activation: N slots, n0 objects handed in -/
def Okay (N : Nat) (os : List Ob) (γ0 : Cx) (σ : St) (a : Act) (w : World) : Prop :=
  a.defers = γ0.D ∧ a.tmps.size = N ∧ ∃ γ, γ.w = w ∧ γ.tmps = a.tmps ∧ Sim σ γ ∧ Fr os γ0 σ.objs γ

/-- THE WEAKEST PRECONDITION ON ABSTRACT STATES -/
def W (P : Program) (N n0 : Nat) (c : Code) (Q : Exit → St → Prop) (σ : St) : Prop :=
  ∀ (os : List Ob) (γ0 : Cx) (a : Act) (w : World), os.length = n0 → Okay N os γ0 σ a w → c.wp P (fun e a' w' => ∃ σ', Q e σ' ∧ Okay N os γ0 σ' a' w') a w

/-- a call, and what is asked of the state behind it -/
def callK (P : Program) (g : FuncId) (args : List AV) (dst : Option Tmp) (K : St → Prop) (σ : St) : Prop := callW P g args σ fun v σ' => K (σ'.put dst v)

/-- the method of a pointer type behind an interface: the function, and the type of what it wants behind the pointer (none: the pointer itself) -/
def methT (P : Program) (t : TypeId) (m : String) : Option (FuncId × Option TypeId) :=
  match P.info? t with
  | none => none
  | some i =>
    match i.methods.find? (·.name == m) with
    | none => none
    | some r =>
      match r.path.isEmpty, r.func, P.underlying t with
      | true, some (g, pr), some (.pointer e) => some (g, if pr then none else some e)
      | _, _, _ => none

/-- what a method called through an interface gets in front -/
def recvK (P : Program) (σ : St) (v : AV) (K : FuncId → AV → Prop) : Option (FuncId × Option TypeId) → Prop
  | some (g, none) => K g v
  | some (g, some e) =>
    (ty P e).kind ≠ 99 ∧
    match v with
    | .ptr id r c =>
      match rowOf σ id r with
      | some row => loadA (ty P e) row c fun x => K g x
      | none => False
    | _ => False
  | none => False

/-- an operation, calls of Go functions too -/
def opG (P : Program) (o : Oper) (σ : St) (K : St → Prop) : Prop :=
  match o.op with
  | .call { callee := .value f, args, .. } =>
    match ev σ f with
    | .fn g caps => callK P g (args.toList.map (ev σ) ++ caps) o.dst K σ
    | _ => False
  | .call { callee := .invoke r m, args, .. } =>
    match ev σ r with
    | .ifc t v => recvK P σ v (fun g x => callK P g (x :: args.toList.map (ev σ)) o.dst K σ) (methT P t m)
    | _ => False
  | _ => opW P o σ K

/-- an operation behind a guard -/
def guardK (P : Program) (o : Oper) (K : St → Prop) (b want : Bool) (σ : St) : Prop := (b = want → opG P o σ K) ∧ (b ≠ want → K (σ.put o.dst (.lit (.tuple #[]))))

/-- the operations of a region, in the text's order -/
def opsL (P : Program) (ops : Array Oper) : List Oper → (St → Prop) → St → Prop
  | [], K, σ => K σ
  | o :: r, K, σ =>
    match o.guard with
    | none => opG P o σ (opsL P ops r K)
    | some (j, want) =>
      match (ops[j]?).bind (·.dst) with
      | none => False
      | some d =>
        match σ.env d with
        | .lit (.bool b) => guardK P o (opsL P ops r K) b want σ
        | .lit (.tuple vs) => vs = #[] ∧ opsL P ops r K (σ.put o.dst (.lit (.tuple #[])))
        | _ => False

theorem put_size (a : Act) (d : Option Tmp) (v : Value) : (a.put d v).tmps.size = a.tmps.size := by cases d <;> simp [Act.put]
theorem put_defers (a : Act) (d : Option Tmp) (v : Value) : (a.put d v).defers = a.defers := by cases d <;> rfl

theorem wrapNil (xt : TypeId) (a : Addr) (x y : String) : Builtin.ssaWrapNilChk_ #[xt] xt #[.pointer (some a), strVal x, strVal y] = pure (.pointer (some a)) := rfl
theorem run_typeInfo' {w : World} {t : TypeId} {i : TypeInfo} (h : P.info? t = some i) : (typeInfo t).run P w = .ok i w := by
  simp [typeInfo, h]
theorem ext1 (x : Value) (A : Array Value) : (#[x] ++ A).extract 1 (#[x] ++ A).size = A := by
  apply Array.ext'
  simp only [Array.toList_extract, List.extract, Array.toList_append, Array.size_append]
  simp [List.take_of_length_le]

theorem recv_sound {σ : St} {γ : Cx} (hs : Sim σ γ) {t : TypeId} {m : String} {v : AV} {cv : Value} (hv : RelV σ.objs γ.w γ.Z γ.blk v cv) {K : FuncId → AV → Prop} (h : recvK P σ v K (methT P t m)) :
    ∃ g x cx, (Go.method (P.types.size + Made.depth) t cv m).run P γ.w = .ok (g, cx) γ.w ∧ RelV σ.objs γ.w γ.Z γ.blk x cx ∧ K g x := by
  obtain ⟨fu, hfu⟩ : ∃ fu, P.types.size + Made.depth = fu + 1 := Nat.exists_eq_succ_of_ne_zero (by unfold Made.depth; omega)
  rw [hfu]
  unfold Go.method
  unfold methT at h
  cases hi : P.info? t with
  | none => simp [hi, recvK] at h
  | some i =>
    simp only [hi] at h
    cases hf : i.methods.find? (·.name == m) with
    | none => simp [hf, recvK] at h
    | some r =>
      simp only [hf] at h
      split at h
      · rename_i g pr e hp hr hu
        have hpe : r.path = #[] := Array.isEmpty_iff.1 hp
        cases pr with
        | true =>
          simp only [if_pos, recvK] at h
          refine ⟨g, v, cv, ?_, hv, h⟩
          simp [run_typeInfo' hi, hf, hpe, follow, hr, receiverAt, run_underlying hu, Place.get]
        | false =>
          simp only [if_neg, Bool.false_eq_true, not_false_eq_true, recvK] at h
          obtain ⟨hk, h⟩ := h
          cases v with
          | ptr id rr c =>
            simp only at h
            cases hrow : rowOf σ id rr with
            | none => simp [hrow] at h
            | some row =>
              simp only [hrow] at h
              obtain ⟨x, cx, h1, h2, h3⟩ := load_ptr hs hk hv hrow h
              refine ⟨g, x, cx, ?_, h2, h3⟩
              obtain ⟨b, base, cap, cur, tt, o, rfl, _⟩ := ptr_row hs hv hrow
              simp only [Instr.loadAt, Instr.sureAddr, Sem.run_bind, Sem.run_pure, Result.andThen_ok] at h1
              simp [run_typeInfo' hi, hf, hpe, follow, hr, receiverAt, run_underlying hu, Place.get, wrapNil, asAddr, h1]
          | _ => exact h.elim
      · exact h.elim

theorem opG_sound {N : Nat} {os : List Ob} {γ0 : Cx} {o : Oper} {σ : St} {K : St → Prop} (h : opG P o σ K) {a : Act} {w : World} (hok : Okay N os γ0 σ a w) (hd : ∀ d, o.dst = some d → d < N)
    {Q : Exit → Act → World → Prop} {next : Act → World → Prop} (hn : ∀ σ' a' w', K σ' → Okay N os γ0 σ' a' w' → next a' w') : o.wp P a w next Q := by
  obtain ⟨hdf, hsz, γ, rfl, ha, hs, hf⟩ := hok
  have hd' : ∀ d, o.dst = some d → d < a.tmps.size := fun d h => by rw [hsz]; exact hd d h
  have hgen : opW P o σ K → o.wp P a γ.w next Q := by
    intro h
    obtain ⟨n, x, w', σ', γ', hr, hn', hK, hs', hf', hw', ht'⟩ := opW_sound h hs ha hd'
    unfold Oper.wp
    rw [hr]
    have hok' : Okay N os γ0 σ' (a.put o.dst x) w' := ⟨by rw [put_defers]; exact hdf, by rw [put_size]; exact hsz, γ', hw', ht', hs', hf.trans hf'⟩
    rcases hn' with rfl | ⟨rfl, rfl⟩
    · exact hn _ _ _ hK hok'
    · exact hn _ _ _ hK hok'
  unfold opG at h
  split at h
  · rename_i f args ats hop
    split at h
    · rename_i g caps he
      have hfr := ev_rel hs ha f
      rw [he] at hfr
      obtain ⟨cvs, hcv, hcs, hcr⟩ := hfr.fn_inv
      have hargs : ∀ (j : Nat) d, (args.toList.map (ev σ) ++ caps)[j]? = some d → RelV σ.objs γ.w γ.Z γ.blk d (((args.map a.eval) ++ cvs).getD j Go.undef) := by
        intro j d hj
        simp only [Array.getD_eq_getD_getElem?]
        rcases Nat.lt_or_ge j args.size with hlt | hge
        · rw [List.getElem?_append_left (by simpa using hlt)] at hj
          rw [Array.getElem?_append_left (by simpa using hlt)]
          simp only [List.getElem?_map, Array.getElem?_toList, Array.getElem?_map] at hj ⊢
          cases hx : args[j]? with
          | none => simp [hx] at hj
          | some y => simp [hx] at hj ⊢; subst hj; exact ev_rel hs ha y
        · rw [List.getElem?_append_right (by simpa using hge)] at hj
          rw [Array.getElem?_append_right (by simpa using hge)]
          simp only [List.length_map, Array.length_toList, Array.size_map] at hj ⊢
          have := hcr _ d hj
          simpa [Array.getD_eq_getD_getElem?] using this
      unfold callK at h
      have hcall := call_sound hs (argv := (args.map a.eval) ++ cvs) (by simp [hcs]) hargs h
      obtain ⟨sel, snap, cargs, cobjs, res, cobjs', ⟨⟨fn, hfn, hname, hbody⟩, _⟩, _⟩ := h
      unfold Oper.wp
      have hr : (execOp a.eval o).run P γ.w = .ok (.enter g ((args.map a.eval) ++ cvs)) γ.w := by
        have hn1 : ¬ fn.name = "runtime.NumGoroutine" := by simpa using hname
        have hn2 : ¬ fn.body = none := by intro e; rw [e] at hbody; simp at hbody
        simp [execOp, hop, resolve, hcv, Deferred.ofValue, invoke, callFunc, hfn, hn1, hn2]
      rw [hr]
      show Calls P g _ _ _
      refine hcall.mono ?_
      rintro e w' ⟨cv, v, σ', γ', rfl, rfl, ht', hs', hf', hv, hK, henv⟩
      refine hn _ _ _ hK ⟨by rw [put_defers]; exact hdf, by rw [put_size]; exact hsz, { γ' with tmps := (a.put o.dst cv).tmps }, rfl, rfl, put_sim hs' (by rw [ht', ha]) hd' hv, ?_⟩
      rw [objs_put]
      exact (hf.trans hf').put _
    · exact h.elim
  · rename_i r m args ats hop
    split at h
    · rename_i t v he
      have hfr := ev_rel hs ha r
      rw [he] at hfr
      obtain ⟨cv0, hcv, hcr⟩ := hfr.ifc_inv
      obtain ⟨g, x, cx, hm, hx, h⟩ := recv_sound hs hcr h
      have hargs : ∀ (j : Nat) d, (x :: args.toList.map (ev σ))[j]? = some d → RelV σ.objs γ.w γ.Z γ.blk d ((#[cx] ++ args.map a.eval).getD j Go.undef) := by
        intro j d hj
        simp only [Array.getD_eq_getD_getElem?]
        cases j with
        | zero =>
          simp only [List.getElem?_cons_zero, Option.some.injEq] at hj
          subst hj
          rw [Array.getElem?_append_left (by simp)]
          simpa using hx
        | succ j =>
          simp only [List.getElem?_cons_succ, List.getElem?_map, Array.getElem?_toList] at hj
          rw [Array.getElem?_append_right (by simp)]
          simp only [List.size_toArray, List.length_cons, List.length_nil, Nat.zero_add, Nat.add_sub_cancel, Array.getElem?_map]
          cases hy : args[j]? with
          | none => simp [hy] at hj
          | some y => simp [hy] at hj ⊢; subst hj; exact ev_rel hs ha y
      unfold callK at h
      have hcall := call_sound hs (argv := #[cx] ++ args.map a.eval) (by simp; omega) hargs h
      obtain ⟨sel, snap, cargs, cobjs, res, cobjs', ⟨⟨fn, hfn, hname, hbody⟩, _⟩, _⟩ := h
      unfold Oper.wp
      have hr : (execOp a.eval o).run P γ.w = .ok (.enter g (#[cx] ++ args.map a.eval)) γ.w := by
        have hn1 : ¬ fn.name = "runtime.NumGoroutine" := by simpa using hname
        have hn2 : ¬ fn.body = none := by intro e; rw [e] at hbody; simp at hbody
        have e0 : (#[Value.iface t cv0] ++ args.map a.eval)[0]? = some (.iface t cv0) := by rw [Array.getElem?_append_left (by simp)]; simp
        have e1 := ext1 (.iface t cv0) (args.map a.eval)
        have e2 : (callMethod (.iface t cv0) m (args.map a.eval)).run P γ.w = .ok (.enter g (#[cx] ++ args.map a.eval)) γ.w := by
          unfold callMethod
          simp only [Sem.run_bind, run_program, Result.andThen_ok, hm]
          simp [callFunc, hfn, hn1, hn2]
        simp only [execOp, hop, resolve, hcv, pure_bind, invoke, e0, e1]
        exact e2
      rw [hr]
      show Calls P g _ _ _
      refine hcall.mono ?_
      rintro e w' ⟨cv, v, σ', γ', rfl, rfl, ht', hs', hf', hv, hK, henv⟩
      refine hn _ _ _ hK ⟨by rw [put_defers]; exact hdf, by rw [put_size]; exact hsz, { γ' with tmps := (a.put o.dst cv).tmps }, rfl, rfl, put_sim hs' (by rw [ht', ha]) hd' hv, ?_⟩
      rw [objs_put]
      exact (hf.trans hf').put _
    · exact h.elim
  · exact hgen h

theorem opsL_sound {N : Nat} {os : List Ob} {γ0 : Cx} {ops : Array Oper} (hd : ∀ o ∈ ops.toList, ∀ d, o.dst = some d → d < N) {K : St → Prop} {Q : Exit → Act → World → Prop}
    (hQ : ∀ σ' a' w', K σ' → Okay N os γ0 σ' a' w' → Q .normal a' w') : ∀ (l : List Oper) (i : Nat) (σ : St) (a : Act) (w : World), ops.toList.drop i = l → opsL P ops l K σ → Okay N os γ0 σ a w →
      wpOps P ops Q (List.range' i l.length) a w
  | [], i, σ, a, w, _, h, hok => by simpa [wpOps] using hQ _ _ _ h hok
  | o :: r, i, σ, a, w, hl, h, hok => by
    have hi : ops[i]? = some o := by
      have : (ops.toList.drop i)[0]? = some o := by rw [hl]; rfl
      simpa using this
    have hr : ops.toList.drop (i + 1) = r := by
      have := congrArg List.tail hl
      simpa [List.tail_drop] using this
    have hmem : o ∈ ops.toList := List.mem_of_getElem? (by simpa using hi)
    rw [List.length_cons, List.range'_succ, wpOps_cons]
    unfold wpOp
    simp only [hi]
    unfold opsL at h
    cases hg : o.guard with
    | none =>
      simp only [hg] at h
      have hw : Region.wanted o (yielded ops a.tmps) = true := by simp [Region.wanted, hg]
      rw [if_pos hw]
      left
      exact opG_sound h hok (hd o hmem) (fun σ' a' w' hK hok' => opsL_sound hd hQ r (i + 1) σ' a' w' hr hK hok')
    | some jw =>
      obtain ⟨j, want⟩ := jw
      simp only [hg] at h
      cases hdj : (ops[j]?).bind (·.dst) with
      | none => simp [hdj] at h
      | some d =>
        simp only [hdj] at h
        split at h
        · rename_i b he
          obtain ⟨hdf, hsz, γ, rfl, ha, hs, hf⟩ := hok
          have hslot := hs.slots d
          rw [he, ha] at hslot
          have hv := hslot.lit_inv
          have hy : yielded ops a.tmps j = some b := by
            unfold yielded
            rw [hdj]
            have : a.tmps[d]? = some (.bool b) := by
              rw [Array.getD_eq_getD_getElem?] at hv
              cases hx : a.tmps[d]? with
              | none => rw [hx] at hv; simp [Go.undef] at hv
              | some y => rw [hx] at hv; simp at hv; rw [hv]
            simp [this]
          by_cases hbw : b = want
          · have hw : Region.wanted o (yielded ops a.tmps) = true := by simp [Region.wanted, hg, hy, hbw]
            rw [if_pos hw]
            left
            exact opG_sound (h.1 hbw) ⟨hdf, hsz, γ, rfl, ha, hs, hf⟩ (hd o hmem) (fun σ' a' w' hK hok' => opsL_sound hd hQ r (i + 1) σ' a' w' hr hK hok')
          · have hw : Region.wanted o (yielded ops a.tmps) = false := by simp [Region.wanted, hg, hy, hbw]
            rw [if_neg (by rw [hw]; simp)]
            refine opsL_sound hd hQ r (i + 1) _ _ _ hr (h.2 hbw) ⟨by rw [put_defers]; exact hdf, by rw [put_size]; exact hsz, { γ with tmps := (a.put o.dst Go.undef).tmps }, rfl, rfl, put_sim hs ha (fun d h => by rw [hsz]; exact hd o hmem d h) (.lit _), ?_⟩
            rw [objs_put]; exact hf.put _
        · rename_i vs he
          obtain ⟨hdf, hsz, γ, rfl, ha, hs, hf⟩ := hok
          have hslot := hs.slots d
          rw [he, ha] at hslot
          have hv := hslot.lit_inv
          have hy : yielded ops a.tmps j = none := by
            unfold yielded
            rw [hdj]
            rw [Array.getD_eq_getD_getElem?] at hv
            cases hx : a.tmps[d]? with
            | none => simp [hx]
            | some y => rw [hx] at hv; simp at hv; subst hv; simp [hx]
          have hw : Region.wanted o (yielded ops a.tmps) = false := by simp [Region.wanted, hg, hy]
          rw [if_neg (by rw [hw]; simp)]
          refine opsL_sound hd hQ r (i + 1) _ _ _ hr h.2 ⟨by rw [put_defers]; exact hdf, by rw [put_size]; exact hsz, { γ with tmps := (a.put o.dst Go.undef).tmps }, rfl, rfl, put_sim hs ha (fun d h => by rw [hsz]; exact hd o hmem d h) (.lit _), ?_⟩
          rw [objs_put]; exact hf.put _
        · exact h.elim

end Go.Am
end
