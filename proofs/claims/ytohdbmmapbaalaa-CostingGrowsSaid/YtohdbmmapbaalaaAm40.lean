import Derived.Test.YtohdbmmapbaalaaAm30
namespace Go.Am
variable {σ : St}

/-! ### lists of records -/

class Row {α : Type} (enc : α → List AV) (sz : outParam Nat) : Prop where
  wid : ∀ x, (enc x).length = sz
  ok : ∀ x, ∀ v ∈ enc x, (∃ y, v = .lit y ∧ y.oneCell' = true) ∨ ∃ s r, v = .tree s r

def rowsOf {α : Type} (enc : α → List AV) (xs : List α) : List (List AV) := xs.map enc

section
variable {α : Type} {enc : α → List AV} {sz : Nat}
theorem rows_length (xs : List α) : (rowsOf enc xs).length = xs.length := by simp [rowsOf]
theorem rows_getD [Inhabited α] (xs : List α) (i : Nat) (h : i < xs.length) : (rowsOf enc xs).getD i [] = enc (xs.getD i default) := by simp [rowsOf, h]
theorem rows_get [Inhabited α] (xs : List α) (i : Nat) (h : i < xs.length) : (rowsOf enc xs)[i]? = some (enc (xs.getD i default)) := by simp [rowsOf, h]
theorem rows_take (xs : List α) : (rowsOf enc xs).take xs.length = rowsOf enc xs := by rw [List.take_of_length_le (by simp [rowsOf])]
theorem rows_app (xs ys : List α) : rowsOf enc xs ++ rowsOf enc ys = rowsOf enc (xs ++ ys) := by simp [rowsOf]
theorem rows_app1 (xs : List α) (x : α) : rowsOf enc xs ++ [enc x] = rowsOf enc (xs ++ [x]) := by simp [rowsOf]
theorem rows_set (xs : List α) (i : Nat) (x : α) : (rowsOf enc xs).set i (enc x) = rowsOf enc (xs.set i x) := by simp [rowsOf, List.map_set]
theorem row_scal [Row enc sz] (x : α) : (enc x).all scal = true := by
  rw [List.all_eq_true]
  intro v hv
  rcases Row.ok (enc := enc) x v hv with ⟨y, rfl, h⟩ | ⟨s, r, rfl⟩
  · simpa [scal] using h
  · rfl
theorem rows_scal [Row enc sz] (xs : List α) : ((rowsOf enc xs).all fun row => row.all scal) = true := by
  simp only [rowsOf, List.all_map, List.all_eq_true]
  intro x _
  exact row_scal (enc := enc) x
theorem noRefL_of {l : List AV} (h : ∀ v ∈ l, noRef v = true) : noRefL l = true := by
  induction l with
  | nil => rfl
  | cons v l ih => simp only [noRefL, Bool.and_eq_true]; exact ⟨h v (by simp), ih fun x hx => h x (by simp [hx])⟩
theorem row_noRef [Row enc sz] (x : α) : noRefL (enc x) = true := noRefL_of fun v hv => by
  rcases Row.ok (enc := enc) x v hv with ⟨y, rfl, _⟩ | ⟨s, r, rfl⟩ <;> rfl
theorem rows_ren [Row enc sz] (ρ : Nat → Nat) (s : Nat) (xs : List α) : renO ρ (.arr s (rowsOf enc xs)) = .arr s (rowsOf enc xs) := renO_noRef (by
  intro row hr
  simp only [rowsOf, List.mem_map] at hr
  obtain ⟨x, _, rfl⟩ := hr
  exact row_noRef (enc := enc) x)
theorem rows_frz [Row enc sz] (xs : List α) : ∀ row ∈ rowsOf enc xs, ∀ v ∈ row, (∃ x, v = AV.lit x) ∨ ∃ s r, v = AV.tree s r := by
  intro row hr v hv
  simp only [rowsOf, List.mem_map] at hr
  obtain ⟨x, _, rfl⟩ := hr
  rcases Row.ok (enc := enc) x v hv with ⟨y, rfl, _⟩ | h
  · exact .inl ⟨_, rfl⟩
  · exact .inr h
theorem rows_wid [Row enc sz] (xs : List α) : ∀ row ∈ rowsOf enc xs, row.length = sz := by
  intro row hr
  simp only [rowsOf, List.mem_map] at hr
  obtain ⟨x, _, rfl⟩ := hr
  exact Row.wid (enc := enc) x
theorem ren_row [Row enc sz] (ρ : Nat → Nat) (x : α) : (enc x).map (ren ρ) = enc x := by
  have := renL_noRef ρ (enc x) (row_noRef (enc := enc) x)
  rwa [renL_eq] at this
end

/-! ### models -/

structure Opt where
  wk : Int
  day : Int
  st : Int
  len : Int
  room : Int
  ch : List (Int × Int)
  deriving Inhabited
structure Pr where
  fst : Int
  snd : Int
  rule : Int
  tab : List Int
  deriving Inhabited
structure Ld where
  cls : Int
  opt : Int
  wt : Int
  deriving Inhabited
structure Ct where
  rule : Int
  loads : List Ld
  most : Int
  pen : Int
  deriving Inhabited
structure Mdl where
  cls : List (List Opt)
  prs : List Pr
  cts : List Ct
  rules : Int
  deriving Inhabited

def i64 (n : Int) : AV := .lit (.int .i64 n)
def eCh (c : Int × Int) : List AV := [.lit (.int .i64 c.1), .lit (.int .i64 c.2)]
def eOpt (o : Opt) : List AV := [.lit (.int .i64 o.wk), .lit (.int .i64 o.day), .lit (.int .i64 o.st), .lit (.int .i64 o.len), .lit (.int .i64 o.room), .tree 2 (rowsOf eCh o.ch)]
def eCls (l : List Opt) : List AV := [.tree 6 (rowsOf eOpt l)]
def ePr (p : Pr) : List AV := [.lit (.int .i64 p.fst), .lit (.int .i64 p.snd), .lit (.int .i64 p.rule), .tree 1 (ints p.tab)]
def eLd (l : Ld) : List AV := [.lit (.int .i64 l.cls), .lit (.int .i64 l.opt), .lit (.int .i64 l.wt)]
def eCt (c : Ct) : List AV := [.lit (.int .i64 c.rule), .tree 3 (rowsOf eLd c.loads), .lit (.int .i64 c.most), .lit (.int .i64 c.pen)]
def eMdl (m : Mdl) : List AV := [.tree 1 (rowsOf eCls m.cls), .tree 4 (rowsOf ePr m.prs), .tree 4 (rowsOf eCt m.cts), .lit (.int .i64 m.rules)]

theorem rowOk {l : List AV} (h : (l.all fun v => match v with | .lit y => y.oneCell' | .tree .. => true | _ => false) = true) : ∀ v ∈ l, (∃ y, v = AV.lit y ∧ y.oneCell' = true) ∨ ∃ s r, v = AV.tree s r := by
  intro v hv
  have := List.all_eq_true.1 h v hv
  cases v <;> simp at this
  · exact .inl ⟨_, rfl, this⟩
  · exact .inr ⟨_, _, rfl⟩

instance : Row eCh 2 := ⟨fun _ => rfl, fun _ => rowOk rfl⟩
instance : Row eOpt 6 := ⟨fun _ => rfl, fun _ => rowOk rfl⟩
instance : Row eCls 1 := ⟨fun _ => rfl, fun _ => rowOk rfl⟩
instance : Row ePr 4 := ⟨fun _ => rfl, fun _ => rowOk rfl⟩
instance : Row eLd 3 := ⟨fun _ => rfl, fun _ => rowOk rfl⟩
instance : Row eCt 4 := ⟨fun _ => rfl, fun _ => rowOk rfl⟩
instance : Row eMdl 4 := ⟨fun _ => rfl, fun _ => rowOk rfl⟩

end Go.Am
