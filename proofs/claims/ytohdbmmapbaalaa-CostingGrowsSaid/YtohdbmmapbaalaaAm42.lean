import Derived.Test.YtohdbmmapbaalaaAm40
namespace Go.Am
variable {P : Program} {N n0 : Nat} {σ : St} {Q : Exit → St → Prop}

/-- the operations of a drawn region in the text's order; the calls in qs are quiet -/
def opsLQ (P : Program) (ops : Array Oper) (qs : List Nat) : Nat → List Oper → (St → Prop) → St → Prop
  | _, [], K, σ => K σ
  | i, o :: r, K, σ => stepD P ops (qs.contains i) o (opsLQ P ops qs (i + 1) r K) σ

theorem opsLQ_nil {ops : Array Oper} {qs : List Nat} {i : Nat} {K : St → Prop} : opsLQ P ops qs i [] K σ = K σ := by simp only [opsLQ]
theorem opsLQ_cons {ops : Array Oper} {qs : List Nat} {i : Nat} {o : Oper} {r : List Oper} {K : St → Prop} : opsLQ P ops qs i (o :: r) K σ = stepD P ops (qs.contains i) o (opsLQ P ops qs (i + 1) r K) σ := by simp only [opsLQ]
theorem opsLQ_go {ops : Array Oper} {qs : List Nat} {i : Nat} {o : Oper} {r : List Oper} {K : St → Prop} (h : opsLQ P ops qs i (o :: r) K σ) : opsLQ P ops qs i (o :: r) K σ := h

theorem planW_seqQ {ops : Array Oper} {qs : List Nat} {K : St → Prop} : ∀ (l : List Oper) (i : Nat) (σ : St), ops.toList.drop i = l → opsLQ P ops qs i l K σ → planW P ops qs (seqP (List.range' i l.length)) K σ
  | [], i, σ, _, h => h
  | o :: r, i, σ, hl, h => by
    have hi : ops[i]? = some o := by
      have : (ops.toList.drop i)[0]? = some o := by rw [hl]; rfl
      simpa using this
    have hr : ops.toList.drop (i + 1) = r := by
      have := congrArg List.tail hl
      simpa [List.tail_drop] using this
    rw [List.length_cons, List.range'_succ]
    show stepAt P ops qs i (planW P ops qs (seqP (List.range' (i + 1) r.length)) K) σ
    unfold stepAt
    simp only [hi]
    have hm : ∀ s, opsLQ P ops qs (i + 1) r K s → planW P ops qs (seqP (List.range' (i + 1) r.length)) K s := fun s hs => planW_seqQ r (i + 1) s hr hs
    exact stepD_mono hm h

def inTextQ (ops : Array Oper) (qs : List Nat) : Bool := (seqP (List.range ops.size)).ok ops qs ops.size (Array.replicate ops.size false)

theorem W_draw_q {id : Nat} {ops : Array Oper} {y : Code} (qs : List Nat) (hm : P.follows .mixedOrders = true) (hd : dstOK N ops = true) (ht : inTextQ ops qs = true) (h : ∀ K : St → Prop, (∀ s, W P N n0 y Q s → K s) → opsLQ P ops qs 0 ops.toList K σ) :
    W P N n0 (.seq (.region id ops true) y) Q σ :=
  W_draw_k qs _ hm hd ht fun K hK => by
    have := planW_seqQ (P := P) (ops := ops) (qs := qs) ops.toList 0 σ rfl (h K hK)
    rw [List.range_eq_range']
    simpa using this

theorem W_draw_qe {id : Nat} {ops : Array Oper} (qs : List Nat) (hm : P.follows .mixedOrders = true) (hd : dstOK N ops = true) (ht : inTextQ ops qs = true) (h : ∀ K : St → Prop, (∀ s, Q .normal s → K s) → opsLQ P ops qs 0 ops.toList K σ) :
    W P N n0 (.region id ops true) Q σ :=
  W_draw qs _ hm hd ht (by
    have := planW_seqQ (P := P) (ops := ops) (qs := qs) ops.toList 0 σ rfl (h _ (fun _ h => h))
    rw [List.range_eq_range']
    simpa using this)

theorem callQ_pure {f : FuncId} {args : List AV} {dst : Option Tmp} {K : St → Prop} {res : AV} (h : Holds P f args [] res []) (ha : noRefL args = true) (hr : noRef res = true) (hK : K (σ.put dst res)) : callQ P f args dst K σ :=
  ⟨res, h, ha, hr, hK⟩

end Go.Am
