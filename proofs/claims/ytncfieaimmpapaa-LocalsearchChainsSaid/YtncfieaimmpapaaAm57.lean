import Derived.Test.YtncfieaimmpapaaAmG
set_option linter.unusedVariables false
set_option linter.unusedSimpArgs false
namespace Go.Am
variable {P : Program} {N n0 : Nat} {σ : St} {Q : Exit → St → Prop}
def isN : Exit → Bool
  | .normal => true
  | _ => false
def isX (id : Nat) : Exit → Bool
  | .normal => true
  | .exit j => j == id
  | _ => false
theorem isN_ne {e : Exit} (h : isN e = false) : e ≠ .normal := by intro h2; subst h2; simp [isN] at h
theorem isX_ne {id : Nat} {e : Exit} (h : isX id e = false) : e ≠ .normal ∧ e ≠ .exit id := by
  constructor
  · intro h2; subst h2; simp [isX] at h
  · intro h2; subst h2; simp [isX] at h
theorem rk {id : Nat} {ops : Array Oper} {y : Code} (h : ∀ K : St → Prop, (∀ s, W P N n0 y Q s → K s) → opsL P ops ops.toList K σ) (hd : dstOK N ops = true := by decide) : W P N n0 (.seq (.region id ops false) y) Q σ := W_region_k hd h
theorem rke {id : Nat} {ops : Array Oper} (h : ∀ K : St → Prop, (∀ s, Q .normal s → K s) → opsL P ops ops.toList K σ) (hd : dstOK N ops = true := by decide) : W P N n0 (.region id ops false) Q σ := W_region_e hd h
theorem rd {id : Nat} {ops : Array Oper} {y : Code} (h : ∀ K : St → Prop, (∀ s, W P N n0 y Q s → K s) → opsL P ops ops.toList K σ) (hm : P.follows .mixedOrders = true := by rfl) (hd : dstOK N ops = true := by decide) (ht : inText ops = true := by decide +kernel) : W P N n0 (.seq (.region id ops true) y) Q σ := W_draw_o hm hd ht h
theorem rde {id : Nat} {ops : Array Oper} (h : ∀ K : St → Prop, (∀ s, Q .normal s → K s) → opsL P ops ops.toList K σ) (hm : P.follows .mixedOrders = true := by rfl) (hd : dstOK N ops = true := by decide) (ht : inText ops = true := by decide +kernel) : W P N n0 (.region id ops true) Q σ := W_draw_oe hm hd ht h
theorem rb {id : Nat} {ops : Array Oper} {y : Code} (h : ∀ K : St → Prop, (∀ s, W P N n0 y Q s → K s) → opsLB P ops ops.toList K σ) (hm : P.follows .mixedOrders = true := by rfl) (hd : dstOK N ops = true := by decide) (ht : inTextB ops = true := by decide +kernel) : W P N n0 (.seq (.region id ops true) y) Q σ := W_draw_b hm hd ht h
theorem rbe {id : Nat} {ops : Array Oper} (h : ∀ K : St → Prop, (∀ s, Q .normal s → K s) → opsLB P ops ops.toList K σ) (hm : P.follows .mixedOrders = true := by rfl) (hd : dstOK N ops = true := by decide) (ht : inTextB ops = true := by decide +kernel) : W P N n0 (.region id ops true) Q σ := W_draw_be hm hd ht h
theorem ra {id : Nat} {ops : Array Oper} {y : Code} (h : ∀ K : St → Prop, (∀ s, W P N n0 y Q s → K s) → opsLA P ops ops.toList K σ) (hm : P.follows .mixedOrders = true := by rfl) (hd : dstOK N ops = true := by decide) (ht : inTextA ops = true := by decide +kernel) : W P N n0 (.seq (.region id ops true) y) Q σ := W_draw_a hm hd ht h
theorem rae {id : Nat} {ops : Array Oper} (h : ∀ K : St → Prop, (∀ s, Q .normal s → K s) → opsLA P ops ops.toList K σ) (hm : P.follows .mixedOrders = true := by rfl) (hd : dstOK N ops = true := by decide) (ht : inTextA ops = true := by decide +kernel) : W P N n0 (.region id ops true) Q σ := W_draw_ae hm hd ht h
theorem Wk {x y : Code} (h : ∀ Q' : Exit → St → Prop, (∀ s, W P N n0 y Q s → Q' .normal s) → (∀ e s, isN e = false → Q e s → Q' e s) → W P N n0 x Q' σ) : W P N n0 (.seq x y) Q σ :=
  W_k fun Q' h1 h2 => h Q' h1 fun e s he => h2 e s (isN_ne he)
theorem Wb {id : Nat} {c : Code} (h : ∀ Q' : Exit → St → Prop, (∀ s, Q .normal s → Q' .normal s) → (∀ s, Q .normal s → Q' (.exit id) s) → (∀ e s, isX id e = false → Q e s → Q' e s) → W P N n0 c Q' σ) : W P N n0 (.block id c) Q σ :=
  W_block_k fun Q' h1 h2 h3 => h Q' h1 h2 fun e s he => h3 e s (isX_ne he).1 (isX_ne he).2
theorem Wc {c : Operand} {x y : Code} {t : Bool} (ht : t = true → W P N n0 x Q σ) (hf : t = false → W P N n0 y Q σ) (hc : ev σ c = .lit (.bool t) := by (simp only [Go.Am.LKc, Go.Am.Lc, ↓reduceIte, Nat.reduceEqDiff, Nat.reduceBEq]; exact rfl)) : W P N n0 (.cond c x y) Q σ := W_cond hc ht hf
theorem W_loopS {α : Type} {c : Code} (S : α → St) (I : α → Prop) (M : α → Nat) (x0 : α) (hI : I x0) (h0 : Turns n0 σ (S x0))
    (round : ∀ x, I x → ∀ Q' : Exit → St → Prop, (∀ s y, I y → M y < M x → Turns n0 s (S y) → Q' .normal s) → (∀ e s, isN e = false → Q e s → Q' e s) → W P N n0 c Q' (S x)) : W P N n0 (.loop c) Q σ :=
  W_loopT S I M x0 hI h0 fun x hx Q' h1 h2 => round x hx Q' h1 fun e s he => h2 e s (isN_ne he)
end Go.Am

