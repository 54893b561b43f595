import Derived.Test.YtohdbmmapbaalaaAm18
namespace Go.Am
variable {P : Program} {N n0 : Nat} {σ : St} {Q : Exit → St → Prop}

theorem W_region_e {id : Nat} {ops : Array Oper} (hd : dstOK N ops = true) (h : ∀ K : St → Prop, (∀ s, Q .normal s → K s) → opsL P ops ops.toList K σ) : W P N n0 (.region id ops false) Q σ :=
  W_region hd (h _ (fun _ h => h))

theorem planW_seqP {ops : Array Oper} {K : St → Prop} : ∀ (l : List Oper) (i : Nat) (σ : St), ops.toList.drop i = l → opsL P ops l K σ → planW P ops [] (seqP (List.range' i l.length)) K σ
  | [], i, σ, _, h => h
  | o :: r, i, σ, hl, h => by
    have hi : ops[i]? = some o := by
      have : (ops.toList.drop i)[0]? = some o := by rw [hl]; rfl
      simpa using this
    have hr : ops.toList.drop (i + 1) = r := by
      have := congrArg List.tail hl
      simpa [List.tail_drop] using this
    rw [List.length_cons, List.range'_succ]
    show stepAt P ops [] i (planW P ops [] (seqP (List.range' (i + 1) r.length)) K) σ
    unfold stepAt
    simp only [hi]
    have hm : ∀ s, opsL P ops r K s → planW P ops [] (seqP (List.range' (i + 1) r.length)) K s := fun s hs => planW_seqP r (i + 1) s hr hs
    refine stepD_mono hm ?_
    unfold opsL at h
    unfold stepD
    cases hg : o.guard with
    | none => simp only [hg] at h; exact h
    | some jw =>
      obtain ⟨j, want⟩ := jw
      simp only [hg] at h
      exact h

/-- the orders of a region all come to the text's own -/
def inText (ops : Array Oper) : Bool := (seqP (List.range ops.size)).ok ops [] ops.size (Array.replicate ops.size false)

theorem W_draw_o {id : Nat} {ops : Array Oper} {y : Code} (hm : P.follows .mixedOrders = true) (hd : dstOK N ops = true) (ht : inText ops = true) (h : ∀ K : St → Prop, (∀ s, W P N n0 y Q s → K s) → opsL P ops ops.toList K σ) :
    W P N n0 (.seq (.region id ops true) y) Q σ :=
  W_draw_k [] _ hm hd ht fun K hK => by
    have := planW_seqP (P := P) (ops := ops) ops.toList 0 σ rfl (h K hK)
    rw [List.range_eq_range']
    simpa using this

theorem W_draw_oe {id : Nat} {ops : Array Oper} (hm : P.follows .mixedOrders = true) (hd : dstOK N ops = true) (ht : inText ops = true) (h : ∀ K : St → Prop, (∀ s, Q .normal s → K s) → opsL P ops ops.toList K σ) :
    W P N n0 (.region id ops true) Q σ :=
  W_draw [] _ hm hd ht (by
    have := planW_seqP (P := P) (ops := ops) ops.toList 0 σ rfl (h _ (fun _ h => h))
    rw [List.range_eq_range']
    simpa using this)

theorem opsL_go {ops : Array Oper} {o : Oper} {l : List Oper} {K : St → Prop} (h : opsL P ops (o :: l) K σ) : opsL P ops (o :: l) K σ := h
theorem planW_go {ops : Array Oper} {qs : List Nat} {t : PT} {K : St → Prop} (h : planW P ops qs t K σ) : planW P ops qs t K σ := h

theorem RetOK_pure' {v res : AV} (hr : noRef v = true) (h : v = res) : RetOK 0 σ v res [] := by
  subst h; exact RetOK_pure hr

theorem upd_app (e : Nat → AV) (d : Nat) (v : AV) (k : Nat) : upd e d v k = if k = d then v else e k := by simp only [upd]

theorem i64min : IntKind.i64.min = -9223372036854775808 := rfl
theorem i64max : IntKind.i64.max = 9223372036854775807 := rfl

/-! ### encoded lists -/

def ints (xs : List Int) : List (List AV) := xs.map fun x => [.lit (.int .i64 x)]
def bools (xs : List Bool) : List (List AV) := xs.map fun x => [.lit (.bool x)]
def rows1 (xs : List (List (List AV))) : List (List AV) := xs.map fun x => [.tree 1 x]
def intss (xs : List (List Int)) : List (List AV) := xs.map fun x => [.tree 1 (ints x)]

theorem ints_length (xs : List Int) : (ints xs).length = xs.length := by simp [ints]
theorem bools_length (xs : List Bool) : (bools xs).length = xs.length := by simp [bools]
theorem intss_length (xs : List (List Int)) : (intss xs).length = xs.length := by simp [intss]
theorem ints_getD (xs : List Int) (i : Nat) (h : i < xs.length) : (ints xs).getD i [] = [.lit (.int .i64 (xs.getD i 0))] := by simp [ints, h]
theorem bools_getD (xs : List Bool) (i : Nat) (h : i < xs.length) : (bools xs).getD i [] = [.lit (.bool (xs.getD i false))] := by simp [bools, h]
theorem intss_getD (xs : List (List Int)) (i : Nat) (h : i < xs.length) : (intss xs).getD i [] = [.tree 1 (ints (xs.getD i []))] := by simp [intss, h]
theorem ints_get (xs : List Int) (i : Nat) (h : i < xs.length) : (ints xs)[i]? = some [.lit (.int .i64 (xs.getD i 0))] := by simp [ints, h]
theorem bools_get (xs : List Bool) (i : Nat) (h : i < xs.length) : (bools xs)[i]? = some [.lit (.bool (xs.getD i false))] := by simp [bools, h]
theorem intss_get (xs : List (List Int)) (i : Nat) (h : i < xs.length) : (intss xs)[i]? = some [.tree 1 (ints (xs.getD i []))] := by simp [intss, h]
theorem ints_set (xs : List Int) (i : Nat) (v : Int) : (ints xs).set i [.lit (.int .i64 v)] = ints (xs.set i v) := by simp [ints, List.map_set]
theorem bools_set (xs : List Bool) (i : Nat) (v : Bool) : (bools xs).set i [.lit (.bool v)] = bools (xs.set i v) := by simp [bools, List.map_set]
theorem ints_app (xs ys : List Int) : ints xs ++ ints ys = ints (xs ++ ys) := by simp [ints]
theorem ints_app1 (xs : List Int) (v : Int) : ints xs ++ [[.lit (.int .i64 v)]] = ints (xs ++ [v]) := by simp [ints]
theorem ints_app0 (v : Int) : [[AV.lit (.int .i64 v)]] = ints [v] := rfl
theorem intss_app1 (xs : List (List Int)) (v : List Int) : intss xs ++ [[.tree 1 (ints v)]] = intss (xs ++ [v]) := by simp [intss]
theorem bools_app1 (xs : List Bool) (v : Bool) : bools xs ++ [[.lit (.bool v)]] = bools (xs ++ [v]) := by simp [bools]
theorem ints_rep (n : Nat) (v : Int) : List.replicate n [AV.lit (.int .i64 v)] = ints (List.replicate n v) := by simp [ints]
theorem bools_rep (n : Nat) (v : Bool) : List.replicate n [AV.lit (.bool v)] = bools (List.replicate n v) := by simp [bools]
theorem ints_scal (xs : List Int) : ((ints xs).all fun row => row.all scal) = true := by simp [ints, scal, Value.oneCell']
theorem bools_scal (xs : List Bool) : ((bools xs).all fun row => row.all scal) = true := by simp [bools, scal, Value.oneCell']
theorem intss_scal (xs : List (List Int)) : ((intss xs).all fun row => row.all scal) = true := by simp [intss, scal]
theorem ints_ren (ρ : Nat → Nat) (sz : Nat) (xs : List Int) : renO ρ (.arr sz (ints xs)) = .arr sz (ints xs) := renO_noRef (by simp [ints, noRefL, noRef])
theorem bools_ren (ρ : Nat → Nat) (sz : Nat) (xs : List Bool) : renO ρ (.arr sz (bools xs)) = .arr sz (bools xs) := renO_noRef (by
  intro row hr
  simp only [bools, List.mem_map] at hr
  obtain ⟨x, _, rfl⟩ := hr
  rfl)
theorem intss_ren (ρ : Nat → Nat) (sz : Nat) (xs : List (List Int)) : renO ρ (.arr sz (intss xs)) = .arr sz (intss xs) := renO_noRef (by simp [intss, noRefL, noRef])
theorem ints_frz (xs : List Int) : ∀ row ∈ ints xs, ∀ v ∈ row, (∃ x, v = AV.lit x) ∨ ∃ s r, v = AV.tree s r := by
  intro row hr v hv
  simp only [ints, List.mem_map] at hr
  obtain ⟨x, _, rfl⟩ := hr
  simp at hv
  exact .inl ⟨_, hv⟩
theorem bools_frz (xs : List Bool) : ∀ row ∈ bools xs, ∀ v ∈ row, (∃ x, v = AV.lit x) ∨ ∃ s r, v = AV.tree s r := by
  intro row hr v hv
  simp only [bools, List.mem_map] at hr
  obtain ⟨x, _, rfl⟩ := hr
  simp at hv
  exact .inl ⟨_, hv⟩
theorem intss_frz (xs : List (List Int)) : ∀ row ∈ intss xs, ∀ v ∈ row, (∃ x, v = AV.lit x) ∨ ∃ s r, v = AV.tree s r := by
  intro row hr v hv
  simp only [intss, List.mem_map] at hr
  obtain ⟨x, _, rfl⟩ := hr
  simp at hv
  exact .inr ⟨_, _, hv⟩
theorem ints_wid (xs : List Int) : ∀ row ∈ ints xs, row.length = 1 := by
  intro row hr; simp only [ints, List.mem_map] at hr; obtain ⟨x, _, rfl⟩ := hr; rfl
theorem bools_wid (xs : List Bool) : ∀ row ∈ bools xs, row.length = 1 := by
  intro row hr; simp only [bools, List.mem_map] at hr; obtain ⟨x, _, rfl⟩ := hr; rfl
theorem intss_wid (xs : List (List Int)) : ∀ row ∈ intss xs, row.length = 1 := by
  intro row hr; simp only [intss, List.mem_map] at hr; obtain ⟨x, _, rfl⟩ := hr; rfl
theorem getD_set_self {α : Type} (xs : List α) (i : Nat) (v d : α) (h : i < xs.length) : (xs.set i v).getD i d = v := by simp [h]
theorem getD_drop0 {α : Type} (xs : List α) (i : Nat) (d : α) (h : i < xs.length) : xs.drop i = xs.getD i d :: xs.drop (i + 1) := by
  rw [List.drop_eq_getElem_cons h]; simp [h]

end Go.Am
