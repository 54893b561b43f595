import Derived.Test.YtohdbmmapbaalaaAm2
namespace Go.Am

variable (P : Program)

/-- THE OPERATIONS (all but calls of Go functions): what they ask, and the state behind them -/
def opW (o : Oper) (σ : St) (K : St → Prop) : Prop :=
  match o.op with
  | .move x | .assign x => K (σ.put o.dst (ev σ x))
  | .pick c a b =>
    match ev σ c with
    | .lit (.bool t) => K (σ.put o.dst (pickV t (ev σ a) (ev σ b)))
    | _ => False
  | .alloc e =>
    (ty P e).kind ≠ 99 ∧
    match (ty P e).zero with
    | some z => K (({ σ with objs := σ.objs ++ [.var (z.map .lit)] } : St).put o.dst (.ptr σ.objs.length 0 0))
    | none => False
  | .box _ x => (cellsOf (ev σ x)).all scal = true ∧ K (({ σ with objs := σ.objs ++ [.var (cellsOf (ev σ x))] } : St).put o.dst (.ptr σ.objs.length 0 0))
  | .build t parts =>
    match (ty P t).kind, (ty P t).zero with
    | 3, some z =>
      match fillA (fun i => ((ty P t).flds[i]?).map fun f => (f.1, f.2.2)) (z.map .lit) (parts.toList.map fun p => (p.1, ev σ p.2)) with
      | some cs => ((parts.toList.all fun p => (cellsOf (ev σ p.2)).all scal) = true ∧ ((ty P t).flds.all fun f => decide (0 < f.2.2)) = true) ∧ K (σ.put o.dst (.agg cs))
      | none => False
    | _, _ => False
  | .buildSlice t len parts =>
    match (ty P t).kind, (ty P (ty P t).elem).zero with
    | 1, some z =>
      match fillA (fun i => some (i * (ty P (ty P t).elem).size, (ty P (ty P t).elem).size)) ((List.range len).flatMap fun _ => z.map .lit) (parts.toList.map fun p => (p.1, ev σ p.2)) with
      | some cs => ((ty P (ty P t).elem).kind ≠ 99 ∧ 0 < (ty P (ty P t).elem).size ∧ z.length = (ty P (ty P t).elem).size ∧ len * (ty P (ty P t).elem).size ≤ 16777216 ∧ (parts.toList.all fun p => (cellsOf (ev σ p.2)).all scal) = true) ∧
          K (({ σ with objs := σ.objs ++ [.arr (ty P (ty P t).elem).size (toRows (ty P (ty P t).elem).size len cs)] } : St).put o.dst (.ref σ.objs.length (ty P (ty P t).elem).size 0 len))
      | none => False
    | _, _ => False
  | .load t a =>
    (ty P t).kind ≠ 99 ∧
    match ev σ a with
    | .ptr id r c =>
      match rowOf σ id r with
      | some row => loadA (ty P t) row c fun v => K (σ.put o.dst v)
      | none => False
    | .taddr cells => loadA (ty P t) cells 0 fun v => K (σ.put o.dst v)
    | _ => False
  | .store t a x =>
    (ty P t).kind ≠ 99 ∧
    match ev σ a with
    | .ptr id r c =>
      match rowOf σ id r with
      | some row => ((cellsOf (ev σ x)).length = (ty P t).size ∧ c + (ty P t).size ≤ row.length ∧ (cellsOf (ev σ x)).all scal = true) ∧ K ((setRowOf σ id r (setCells row c (cellsOf (ev σ x)))).put o.dst .undef)
      | none => False
    | _ => False
  | .nilCheck x =>
    match ev σ x with
    | .ptr id r c =>
      match σ.objs[id]? with
      | some .gone => False
      | some _ => K (σ.put o.dst (.ptr id r c))
      | none => False
    | .taddr cells => K (σ.put o.dst (.taddr cells))
    | _ => False
  | .binOp op t x y _ =>
    match ev σ x, ev σ y with
    | .lit (.int k a), .lit (.int k' b) => k = k' ∧ intW op k a b fun v => K (σ.put o.dst (.lit v))
    | .lit (.bool a), .lit (.bool b) =>
      (ty P t).kind = 6 ∧
      match op with
      | .eql => K (σ.put o.dst (.lit (.bool (a == b))))
      | .neq => K (σ.put o.dst (.lit (.bool (a != b))))
      | _ => False
    | .tree _ rows, .lit (.slice none 0 0) =>
      ((ty P t).kind = 1 ∧ 0 < rows.length) ∧
      match op with
      | .eql => K (σ.put o.dst (.lit (.bool false)))
      | .neq => K (σ.put o.dst (.lit (.bool true)))
      | _ => False
    | _, _ => False
  | .unOp op _ x =>
    match op, ev σ x with
    | .not, .lit (.bool b) => K (σ.put o.dst (.lit (.bool !b)))
    | .neg, .lit (.int k a) => (k.min ≤ -a ∧ -a ≤ k.max) ∧ K (σ.put o.dst (.lit (.int k (-a))))
    | _, _ => False
  | .makeFunc fn first captured =>
    match fn with
    | .func f => first.size = 0 ∧ K (σ.put o.dst (.fn f (captured.toList.map (ev σ))))
    | _ => False
  | .makeSlice t l c =>
    match (ty P t).kind, (ty P (ty P t).elem).zero, ev σ l, ev σ c with
    | 1, some z, .lit (.int k n), .lit (.int k' n') =>
      ((ty P (ty P t).elem).kind ≠ 99 ∧ 0 < (ty P (ty P t).elem).size ∧ z.length = (ty P (ty P t).elem).size ∧ n' = n ∧ 0 ≤ n ∧ n ≤ 1099511627776 ∧ (ty P (ty P t).elem).bytes ≤ 128 ∧ k = k) ∧
        K (({ σ with objs := σ.objs ++ [.arr (ty P (ty P t).elem).size (List.replicate n.toNat (z.map .lit))] } : St).put o.dst (.ref σ.objs.length (ty P (ty P t).elem).size 0 n.toNat)) ∧ k' = k'
    | _, _, _, _ => False
  | .slice t x lo hi mx =>
    (ty P t).kind = 1 ∧ (ty P (ty P t).elem).kind ≠ 99 ∧ mx = none ∧
    match ev σ x with
    | .ref id sz off len =>
      match σ.objs[id]? with
      | some (.arr sz' rows) =>
        sz' = sz ∧ sz = (ty P (ty P t).elem).size ∧
        match lo.map (ev σ), hi.map (ev σ) with
        | none, none => K (σ.put o.dst (.ref id sz off len))
        | some (.lit (.int _ l)), none => (0 ≤ l ∧ l ≤ len ∧ rows.length = rows.length) ∧ K (σ.put o.dst (.ref id sz (off + l.toNat) (len - l.toNat)))
        | none, some (.lit (.int _ h)) => (0 ≤ h ∧ h ≤ len) ∧ K (σ.put o.dst (.ref id sz off h.toNat))
        | some (.lit (.int _ l)), some (.lit (.int _ h)) => (0 ≤ l ∧ l ≤ h ∧ h ≤ len) ∧ K (σ.put o.dst (.ref id sz (off + l.toNat) (h.toNat - l.toNat)))
        | _, _ => False
      | _ => False
    | .tree sz rows =>
        (rows ≠ [] → sz = (ty P (ty P t).elem).size) ∧
        match lo.map (ev σ), hi.map (ev σ) with
        | none, none => K (σ.put o.dst (.tree sz rows))
        | some (.lit (.int _ l)), none => (0 ≤ l ∧ l ≤ rows.length) ∧ K (σ.put o.dst (.tree sz (rows.drop l.toNat)))
        | none, some (.lit (.int _ h)) => (0 ≤ h ∧ h ≤ rows.length) ∧ K (σ.put o.dst (.tree sz (rows.take h.toNat)))
        | some (.lit (.int _ l)), some (.lit (.int _ h)) => (0 ≤ l ∧ l ≤ h ∧ h ≤ rows.length) ∧ K (σ.put o.dst (.tree sz ((rows.take h.toNat).drop l.toNat)))
        | _, _ => False
    | _ => False
  | .fieldAddr s x f =>
    match (ty P s).kind, (ty P s).flds[f]? with
    | 3, some (off, _, size) =>
      0 < size ∧
      match ev σ x with
      | .ptr id r c =>
        match σ.objs[id]? with
        | some .gone => False
        | some _ => K (σ.put o.dst (.ptr id r (c + off)))
        | none => False
      | .taddr cells => K (σ.put o.dst (.taddr (cells.drop off)))
      | _ => False
    | _, _ => False
  | .field s x f =>
    match (ty P s).kind, (ty P s).flds[f]? with
    | 3, some (off, t, size) =>
      (ty P t).kind ≠ 99 ∧ size = (ty P t).size ∧
      match ev σ x with
      | .agg cs => if (ty P t).isAgg then off + size ≤ cs.length ∧ K (σ.put o.dst (.agg ((cs.drop off).take size))) else
          match cs[off]? with
          | some v => K (σ.put o.dst v)
          | none => False
      | _ => False
    | _, _ => False
  | .indexAddr t x i =>
    match (ty P t).kind, ev σ x, ev σ i with
    | 1, .ref id sz off len, .lit (.int _ n) =>
      match σ.objs[id]? with
      | some (.arr sz' _) => (sz' = sz ∧ sz = (ty P (ty P t).elem).size ∧ (ty P (ty P t).elem).kind ≠ 99 ∧ 0 ≤ n ∧ n < len) ∧ K (σ.put o.dst (.ptr id (off + n.toNat) 0))
      | _ => False
    | 1, .tree sz rows, .lit (.int _ n) => (sz = (ty P (ty P t).elem).size ∧ (ty P (ty P t).elem).kind ≠ 99 ∧ 0 ≤ n ∧ n < rows.length) ∧ K (σ.put o.dst (.taddr (rows.getD n.toNat [])))
    | 2, .ptr id r c, .lit (.int _ n) =>
      match σ.objs[id]? with
      | some .gone => False
      | some _ => ((ty P (ty P t).elem).kind ≠ 99 ∧ 0 ≤ n ∧ n < (ty P t).len) ∧ K (σ.put o.dst (.ptr id r (c + n.toNat * (ty P (ty P t).elem).size)))
      | none => False
    | _, _, _ => False
  | .extract x i =>
    match ev σ x with
    | .tup vs =>
      match vs[i]? with
      | some v => K (σ.put o.dst v)
      | none => False
    | _ => False
  | .call { callee := .builtin .len, args, argTypes } =>
    match args.toList, argTypes.toList with
    | [x], [t] =>
      (ty P t).kind = 1 ∧
      match ev σ x with
      | .ref id sz _ len =>
        match σ.objs[id]? with
        | some (.arr sz' _) => sz' = sz ∧ K (σ.put o.dst (.lit (.int .i64 len)))
        | _ => False
      | .tree _ rows => K (σ.put o.dst (.lit (.int .i64 rows.length)))
      | .lit (.slice none 0 0) => K (σ.put o.dst (.lit (.int .i64 0)))
      | _ => False
    | _, _ => False
  | .call { callee := .builtin .append, args, argTypes } =>
    match args.toList, argTypes.toList with
    | [s, x], [t, t'] =>
      match (ty P t).kind, (ty P (ty P t).elem).zero, dstRows σ (ty P (ty P t).elem).size (ev σ s), srcRows σ (ev σ x) with
      | 1, some z, some (pre, σ1), some (sz, src) =>
        (t' = t ∧ (ty P (ty P t).elem).kind ≠ 99 ∧ sz = (ty P (ty P t).elem).size ∧ 0 < sz ∧ z.length = sz ∧ pre.length + src.length ≤ 549755813888 ∧ (ty P (ty P t).elem).bytes ≤ 128 ∧ (src.all fun row => row.all scal) = true) ∧
          K (({ σ1 with objs := σ1.objs ++ [.arr sz (pre ++ src)] } : St).put o.dst (.ref σ1.objs.length sz 0 (pre.length + src.length)))
      | _, _, _, _ => False
    | _, _ => False
  | .call { callee := .builtin .min, args, argTypes := _ } =>
    match args.toList with
    | [x, y] =>
      match ev σ x, ev σ y with
      | .lit (.int k a), .lit (.int k' b) => k = k' ∧ K (σ.put o.dst (.lit (.int k (min a b))))
      | _, _ => False
    | _ => False
  | .call { callee := .builtin .max, args, argTypes := _ } =>
    match args.toList with
    | [x, y] =>
      match ev σ x, ev σ y with
      | .lit (.int k a), .lit (.int k' b) => k = k' ∧ K (σ.put o.dst (.lit (.int k (max a b))))
      | _, _ => False
    | _ => False
  | _ => False

end Go.Am
