import Derived.Test.YtohdbmmapbaalaaAm1
namespace Go.Am

/-- what a type is, as far as the operations ask -/
structure Ty where
  kind : Nat
  size : Nat
  bytes : Nat
  elem : Nat
  len : Nat
  zero : Option (List Value)
  flds : List (Nat × Nat × Nat)

def kSlice : Nat := 1
def kArray : Nat := 2
def kStruct : Nat := 3
def kString : Nat := 4
def kInt : Nat := 5
def kBool : Nat := 6
def kPtr : Nat := 7
def kMap : Nat := 8
def kFunc : Nat := 9

def sizeT (P : Program) (t : TypeId) : Nat := match P.info? t with | some i => i.size | none => 0

def ty (P : Program) (t : TypeId) : Ty :=
  match P.info? t, P.underlying t with
  | some i, some d =>
    let base : Ty := { kind := 0, size := i.size, bytes := i.bytes, elem := 0, len := 0, zero := i.zero.map (·.cells.toList), flds := [] }
    match d with
    | .slice e => { base with kind := 1, elem := e }
    | .array n e => { base with kind := 2, elem := e, len := n }
    | .struct fs => { base with kind := 3, flds := fs.toList.map fun f => (f.offset, f.type, sizeT P f.type) }
    | .string => { base with kind := 4 }
    | .int _ => { base with kind := 5 }
    | .bool => { base with kind := 6 }
    | .pointer e => { base with kind := 7, elem := e }
    | .map _ e => { base with kind := 8, elem := e }
    | .func _ _ _ => { base with kind := 9 }
    | _ => base
  | _, _ => { kind := 99, size := 0, bytes := 0, elem := 0, len := 0, zero := none, flds := [] }

def Ty.isAgg (t : Ty) : Bool := t.kind == 2 || t.kind == 3

theorem ty_info {P : Program} {t : TypeId} (h : (ty P t).kind ≠ 99) : ∃ i d, P.info? t = some i ∧ P.underlying t = some d ∧ (ty P t).size = i.size ∧ (ty P t).bytes = i.bytes ∧ (ty P t).zero = i.zero.map (·.cells.toList) := by
  unfold ty at h ⊢
  cases hi : P.info? t with
  | none => simp [hi] at h
  | some i =>
    cases hd : P.underlying t with
    | none => simp [hi, hd] at h
    | some d =>
      refine ⟨i, d, rfl, rfl, ?_, ?_, ?_⟩ <;> cases d <;> rfl

theorem ty_slice {P : Program} {t : TypeId} (h : (ty P t).kind = 1) : P.underlying t = some (.slice (ty P t).elem) := by
  unfold ty at h ⊢
  cases hi : P.info? t <;> cases hd : P.underlying t <;> simp [hi, hd] at h ⊢
  rename_i i d
  cases d <;> simp at h ⊢

theorem ty_array {P : Program} {t : TypeId} (h : (ty P t).kind = 2) : P.underlying t = some (.array (ty P t).len (ty P t).elem) := by
  unfold ty at h ⊢
  cases hi : P.info? t <;> cases hd : P.underlying t <;> simp [hi, hd] at h ⊢
  rename_i i d
  cases d <;> simp at h ⊢

theorem ty_struct {P : Program} {t : TypeId} (h : (ty P t).kind = 3) : ∃ fs, P.underlying t = some (.struct fs) ∧ (ty P t).flds = fs.toList.map fun f => (f.offset, f.type, sizeT P f.type) := by
  unfold ty at h ⊢
  cases hi : P.info? t <;> cases hd : P.underlying t <;> simp [hi, hd] at h ⊢
  rename_i i d
  cases d <;> simp at h ⊢

theorem ty_bool {P : Program} {t : TypeId} (h : (ty P t).kind = 6) : P.underlying t = some .bool := by
  unfold ty at h
  cases hi : P.info? t <;> cases hd : P.underlying t <;> simp [hi, hd] at h ⊢
  rename_i i d
  cases d <;> simp at h ⊢

/-- operands -/
def litOf : Value → AV
  | .agg cs => .agg (cs.toList.map .lit)
  | v => .lit v

def ev (σ : St) : Operand → AV
  | .tmp t => σ.env t
  | .const v => litOf v
  | .func f => .fn f []
  | .global _ => .undef

def St.put (σ : St) (dst : Option Tmp) (v : AV) : St :=
  match dst with
  | some d => { σ with env := upd σ.env d v }
  | none => σ

/-- a value of one cell -/
def scal : AV → Bool
  | .lit v => v.oneCell'
  | .tree .. | .taddr _ | .ref .. | .ptr .. | .fn .. => true
  | _ => false

def cellsOf : AV → List AV
  | .agg cs => cs
  | v => [v]

def setCells (cells : List AV) (c : Nat) : List AV → List AV
  | [] => cells
  | v :: vs => setCells (cells.set c v) (c + 1) vs

def fillA (place : Nat → Option (Nat × Nat)) (cells : List AV) : List (Nat × AV) → Option (List AV)
  | [] => some cells
  | (i, v) :: rest =>
    match place i with
    | none => none
    | some (off, size) => if (cellsOf v).length = size ∧ off + size ≤ cells.length then fillA place (setCells cells off (cellsOf v)) rest else none

def toRows (sz : Nat) : Nat → List AV → List (List AV)
  | 0, _ => []
  | n + 1, cs => cs.take sz :: toRows sz n (cs.drop sz)

/-- the row of an object at which an address stands -/
def rowOf (σ : St) (id r : Nat) : Option (List AV) :=
  match σ.objs[id]? with
  | some (.var cells) => if r = 0 then some cells else none
  | some (.arr _ rows) => rows[r]?
  | _ => none

def setRowOf (σ : St) (id r : Nat) (row : List AV) : St :=
  match σ.objs[id]? with
  | some (.var _) => { σ with objs := σ.objs.set id (.var row) }
  | some (.arr sz rows) => { σ with objs := σ.objs.set id (.arr sz (rows.set r row)) }
  | _ => σ

def loadA (t : Ty) (cells : List AV) (c : Nat) (K : AV → Prop) : Prop :=
  if t.isAgg then c + t.size ≤ cells.length ∧ K (.agg ((cells.drop c).take t.size))
  else match cells[c]? with
    | some v => K v
    | none => False

def intW (op : BinOp) (k : IntKind) (a b : Int) (K : Value → Prop) : Prop :=
  match op with
  | .add => (k.min ≤ a + b ∧ a + b ≤ k.max) ∧ K (.int k (a + b))
  | .sub => (k.min ≤ a - b ∧ a - b ≤ k.max) ∧ K (.int k (a - b))
  | .mul => (k.min ≤ a * b ∧ a * b ≤ k.max) ∧ K (.int k (a * b))
  | .quo => (0 ≤ a ∧ 0 < b ∧ a ≤ k.max) ∧ K (.int k (a / b))
  | .rem => b ≠ 0 ∧ K (.int k (a.tmod b))
  | .eql => K (.bool (a == b))
  | .neq => K (.bool (a != b))
  | .lss => K (.bool (decide (a < b)))
  | .leq => K (.bool (decide (a ≤ b)))
  | .gtr => K (.bool (decide (a > b)))
  | .geq => K (.bool (decide (a ≥ b)))
  | _ => False

def pickV (t : Bool) : AV → AV → AV
  | .lit (.bool x), .lit (.bool y) => .lit (.bool (bif t then x else y))
  | a, b => if t then a else b

/-- the rows of a slice that is read -/
def srcRows (σ : St) : AV → Option (Nat × List (List AV))
  | .tree sz rows => some (sz, rows)
  | .ref id sz off len =>
    match σ.objs[id]? with
    | some (.arr sz' rows) => if sz' = sz then some (sz, (rows.drop off).take len) else none
    | _ => none
  | _ => none

/-- the slice that is appended to: its rows, and the state without it -/
def dstRows (σ : St) (sz : Nat) : AV → Option (List (List AV) × St)
  | .lit (.slice none 0 0) => some ([], σ)
  | .ref id sz' off len =>
    match σ.objs[id]? with
    | some (.arr sz'' rows) => if sz'' = sz' ∧ sz' = sz then some ((rows.drop off).take len, { σ with objs := σ.objs.set id .gone }) else none
    | _ => none
  | _ => none

end Go.Am
