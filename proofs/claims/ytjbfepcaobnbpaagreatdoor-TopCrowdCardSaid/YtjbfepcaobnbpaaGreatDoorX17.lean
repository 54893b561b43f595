import Derived.Test.YtjbfepcaobnbpaaGreatDoorChecked
import Derived.KernelRfl
import Derived.Test.YtjbfepcaobnbpaaGreatDoorX06
import Derived.Test.YtjbfepcaobnbpaaGreatDoorX16
import Derived.Laws.Externs
set_option linter.unusedVariables false
set_option linter.unusedSimpArgs false
set_option linter.unnecessarySimpa false
set_option linter.unusedSectionVars false
section
/- THE TABLES OF THE SEAT -/
namespace Go.Am.T
noncomputable abbrev P := Go.Proofs.Tryz.prog
noncomputable def fnT (f : Nat) : Option FnX :=
  match P.funcs[f]? with
  | some fu =>
    match fu.body with
    | some c => if fu.name == "runtime.NumGoroutine" then none else some ⟨fu.ntmps, c, fu.results.toList⟩
    | none => none
  | none => none
theorem fnT_ok (f : Nat) (x : FnX) (h : fnT f = some x) : ∃ fu, P.funcs[f]? = some fu ∧ fu.body = some x.code ∧ (fu.name == "runtime.NumGoroutine") = false ∧ fu.ntmps = x.N ∧ fu.results.toList = x.rs := by
  unfold fnT at h
  split at h
  · rename_i fu hf
    split at h
    · rename_i c hc
      split at h
      · cases h
      · rename_i hn
        simp only [Option.some.injEq] at h
        subst h
        exact ⟨fu, hf, hc, by simpa using hn, rfl, rfl⟩
    · cases h
  · cases h
noncomputable def eqT2 (t n : Nat) : Bool := if eqTest P 5 t n = true then (if P.eqGuardType P.depth t = false then true else false) else false
theorem eqT2_ok (t n : Nat) (h : eqT2 t n = true) : EqT P t n ∧ P.eqGuardType P.depth t = false := by
  unfold eqT2 at h
  split at h
  · rename_i h1
    split at h
    · rename_i h2; exact ⟨EqT.of 5 h1, h2⟩
    · cases h
  · cases h
noncomputable def natT (f : Nat) : Nat := ifX (Nat.beq f 293) 1 (ifX (Nat.beq f 268) 2 0)
end Go.Am.T
end
section
/- THE ENVIRONMENT OF THE SEAT -/
open Go Go.Am
namespace Go.Am.T
theorem natT_1 (f : Nat) (h : natT f = 1) : f = 293 := by
  unfold natT at h
  rw [ifX_eq, ifX_eq] at h
  split at h
  · rename_i hb; exact beq_nat hb
  · split at h <;> simp at h
theorem natT_2 (f : Nat) (h : natT f = 2) : f = 268 := by
  unfold natT at h
  rw [ifX_eq, ifX_eq] at h
  split at h
  · simp at h
  · split at h
    · rename_i hb; exact beq_nat hb
    · simp at h
noncomputable def TE : Env P where
  ty := Go.Am.ty P
  tyOK := fun _ => rfl
  eqt := eqT2
  eqOK := eqT2_ok
  mix := by kernel_rfl
  fn := fnT
  fnOK := fnT_ok
  nat := natT
  natOK1 := fun f h s c w => by
    rw [natT_1 f h, run_callFunc_extern Go.Proofs.Tryz.func293 (by kernel_rfl) (by kernel_rfl) (by kernel_rfl) (e := Extern.BytealgIndexByte.indexByte) (by kernel_rfl), Lib.run_indexByteString]
    rfl
  natOK2 := fun f h s c w => by
    rw [natT_2 f h, run_callFunc_extern Go.Proofs.Tryz.func268 (by kernel_rfl) (by kernel_rfl) (by kernel_rfl) (e := Extern.BytealgCount.count) (by kernel_rfl), Lib.run_countString]
    rfl
def outB (r : Option VS) : Bool :=
  match r with
  | some ⟨.lit (.bool b), _, _⟩ => b
  | _ => false
def okB (r : Option VS) : Bool :=
  match r with
  | some _ => true
  | none => false
noncomputable def thn (r : Option VS) (f : AV → Nat → E5 → Option VS) : Option VS := opt r fun x => f x.v x.n x.ob
noncomputable def crowdX (a b : Int) := runX TE noO noS 30 5 [.lit (.int .i64 a), .lit (.int .i64 b)] 0 e5
end Go.Am.T
end
