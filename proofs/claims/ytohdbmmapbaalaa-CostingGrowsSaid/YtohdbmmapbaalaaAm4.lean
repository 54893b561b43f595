import Derived.Test.YtohdbmmapbaalaaAm3
namespace Go.Am
variable {P : Program}

/-- what an operation leaves -/
def OpOut (o : Oper) (σ : St) (γ : Cx) (a : Act) (K : St → Prop) (r : Result Next) : Prop :=
  ∃ n x w' σ' γ', r = .ok n w' ∧ (n = .value x ∨ (n = .skip ∧ x = Go.undef)) ∧ K σ' ∧ Sim σ' γ' ∧ Fr σ.objs γ σ'.objs γ' ∧ γ'.w = w' ∧ γ'.tmps = (a.put o.dst x).tmps

theorem RelV.lit {os : List Ob} {w : World} {Z : Nat → Prop} {blk : Blk} (v : Value) : RelV os w Z blk (.lit v) v := .frz _ _ (.lit v)

theorem RelV.lit_inv {os : List Ob} {w : World} {Z : Nat → Prop} {blk : Blk} {v cv : Value} (h : RelV os w Z blk (.lit v) cv) : cv = v := by
  cases h with
  | frz _ _ h => cases h; rfl

theorem RelV.tree_inv {os : List Ob} {w : World} {Z : Nat → Prop} {blk : Blk} {sz : Nat} {rows : List (List AV)} {cv : Value} (h : RelV os w Z blk (.tree sz rows) cv) : TreeR w Z (.tree sz rows) cv := by
  cases h with
  | frz _ _ h => exact h

theorem RelV.litOf {os : List Ob} {w : World} {Z : Nat → Prop} {blk : Blk} (v : Value) : RelV os w Z blk (litOf v) v := by
  unfold Am.litOf
  split
  · rename_i cs
    refine .agg _ _ (by simp) (fun j x hx => ?_)
    simp only [List.getElem?_map, Array.getElem?_toList] at hx
    cases hj : cs[j]? with
    | none => simp [hj] at hx
    | some y =>
      simp [hj] at hx
      subst hx
      simp [hj]
      exact .lit y
  · exact .lit v

theorem ev_rel {σ : St} {γ : Cx} (h : Sim σ γ) {a : Act} (ha : γ.tmps = a.tmps) (x : Operand) : RelV σ.objs γ.w γ.Z γ.blk (ev σ x) (a.eval x) := by
  cases x with
  | tmp t => have := h.slots t; rw [ha] at this; exact this
  | const v => exact .litOf v
  | global g => exact .undef _
  | func f => exact .fn f [] #[] rfl (fun j x hx => by simp at hx)

theorem scal_one {os : List Ob} {w : World} {Z : Nat → Prop} {blk : Blk} {v : AV} {cv : Value} (h : RelV os w Z blk v cv) (hs : scal v = true) : cv.oneCell' = true := by
  cases h with
  | undef cv => simp [scal] at hs
  | frz v cv h => cases h <;> first | rfl | (simpa [scal] using hs)
  | taddr => rfl
  | deadRef id sz off len cv h h1 => exact h1
  | deadPtr id r c cv h h1 => exact h1
  | ref => rfl
  | refNil => rfl
  | refEnd => rfl
  | ptrV => rfl
  | ptrA => rfl
  | agg => simp [scal] at hs
  | tup => simp [scal] at hs
  | fn => rfl

theorem put_sim {σ : St} {γ : Cx} (h : Sim σ γ) {a : Act} (ha : γ.tmps = a.tmps) {dst : Option Tmp} (hd : ∀ d, dst = some d → d < a.tmps.size) {v : AV} {cv : Value}
    (hv : RelV σ.objs γ.w γ.Z γ.blk v cv) : Sim (σ.put dst v) { γ with tmps := (a.put dst cv).tmps } := by
  cases dst with
  | none =>
    have : ({ γ with tmps := (a.put none cv).tmps } : Cx) = γ := by cases γ; simp_all [Act.put]
    rw [this]
    exact h
  | some d =>
    have := h.put d (by rw [ha]; exact hd d rfl) hv
    rw [ha] at this
    exact this

theorem objs_put (σ : St) (dst : Option Tmp) (v : AV) : (σ.put dst v).objs = σ.objs := by cases dst <;> rfl

/-- the end of an operation that gives a value and leaves the world -/
theorem out_put {o : Oper} {σ : St} {γ : Cx} {a : Act} {K : St → Prop} (h : Sim σ γ) (ha : γ.tmps = a.tmps) (hd : ∀ d, o.dst = some d → d < a.tmps.size) {v : AV} {cv : Value}
    (hv : RelV σ.objs γ.w γ.Z γ.blk v cv) (hK : K (σ.put o.dst v)) {r : Result Next} (hr : r = .ok (.value cv) γ.w) : OpOut o σ γ a K r :=
  ⟨.value cv, cv, γ.w, σ.put o.dst v, { γ with tmps := (a.put o.dst cv).tmps }, hr, .inl rfl, hK, put_sim h ha hd hv, by rw [objs_put]; exact (Fr.refl _ _).put _, rfl, rfl⟩

/-- the end of an operation that turns the objects, and then gives a value -/
theorem out_put' {o : Oper} {σ σ1 : St} {γ γ1 : Cx} {a : Act} {K : St → Prop} (hf : Fr σ.objs γ σ1.objs γ1) (h : Sim σ1 γ1) (ha : γ1.tmps = a.tmps) (hd : ∀ d, o.dst = some d → d < a.tmps.size) {v : AV} {cv : Value}
    (hv : RelV σ1.objs γ1.w γ1.Z γ1.blk v cv) (hK : K (σ1.put o.dst v)) {r : Result Next} (hr : r = .ok (.value cv) γ1.w) : OpOut o σ γ a K r :=
  ⟨.value cv, cv, γ1.w, σ1.put o.dst v, { γ1 with tmps := (a.put o.dst cv).tmps }, hr, .inl rfl, hK, put_sim h ha hd hv, by rw [objs_put]; exact hf.put _, rfl, rfl⟩

/-- the end of an operation that turns the objects and gives none -/
theorem out_skip {o : Oper} {σ σ1 : St} {γ γ1 : Cx} {a : Act} {K : St → Prop} (hf : Fr σ.objs γ σ1.objs γ1) (h : Sim σ1 γ1) (ha : γ1.tmps = a.tmps) (hd : ∀ d, o.dst = some d → d < a.tmps.size)
    (hK : K (σ1.put o.dst .undef)) {r : Result Next} (hr : r = .ok .skip γ1.w) : OpOut o σ γ a K r :=
  ⟨.skip, Go.undef, γ1.w, σ1.put o.dst .undef, { γ1 with tmps := (a.put o.dst Go.undef).tmps }, hr, .inr ⟨rfl, rfl⟩, hK, put_sim h ha hd (.undef _), by rw [objs_put]; exact hf.put _, rfl, rfl⟩

theorem wrap_in {k : IntKind} {n : Int} (h : k.min ≤ n ∧ n ≤ k.max) : k.wrap n = n := by
  cases k <;> simp [IntKind.min, IntKind.max, IntKind.signed, IntKind.bits] at h <;> simp [IntKind.wrap, IntKind.signed, IntKind.bits] <;> omega

theorem intW_sound {op : BinOp} {k : IntKind} {x y : Int} {K : Value → Prop} (h : intW op k x y K) (t : TypeId) (w : World) :
    ∃ v, (binOp op t (.int k x) (.int k y)).run P w = .ok v w ∧ K v := by
  cases op <;> simp only [intW] at h
  case add => exact ⟨_, by simp [binOp, Op.intArith, wrap_in h.1], h.2⟩
  case sub => exact ⟨_, by simp [binOp, Op.intArith, wrap_in h.1], h.2⟩
  case mul => exact ⟨_, by simp [binOp, Op.intArith, wrap_in h.1], h.2⟩
  case quo =>
    refine ⟨_, ?_, h.2⟩
    obtain ⟨h0, hb, hm⟩ := h.1
    have hq : x.tdiv y = x / y := Int.tdiv_eq_ediv_of_nonneg h0
    have hle : x / y ≤ x := Int.ediv_le_self _ h0
    have hge : 0 ≤ x / y := Int.ediv_nonneg h0 (by omega)
    have hw : k.wrap (x / y) = x / y := wrap_in ⟨by cases k <;> simp [IntKind.min, IntKind.signed, IntKind.bits] <;> omega, by omega⟩
    have hne : ¬ y = 0 := by omega
    simp [binOp, Op.intDiv, hne, hq, hw]
  case rem => exact ⟨_, by simp [binOp, Op.intDiv, h.1], h.2⟩
  case eql => exact ⟨_, by simp [binOp, Op.intCmp], h⟩
  case neq => exact ⟨_, by simp [binOp, Op.intCmp], h⟩
  case lss => exact ⟨_, by simp [binOp, Op.intCmp], h⟩
  case leq => exact ⟨_, by simp [binOp, Op.intCmp], h⟩
  case gtr => exact ⟨_, by simp [binOp, Op.intCmp], h⟩
  case geq => exact ⟨_, by simp [binOp, Op.intCmp], h⟩

theorem boolEq_run (t : TypeId) (w : World) (x y : Bool) (op : BinOp) (hop : op = .eql ∨ op = .neq) (ht : P.underlying t = some .bool) :
    (binOp op t (.bool x) (.bool y)).run P w = .ok (.bool (if op = .eql then (x == y) else (x != y))) w := by
  rcases hop with rfl | rfl
  · rw [run_eql_bool w t x y ht]; rfl
  · rw [run_neq_bool w t x y ht]; simp [bne]

end Go.Am
