import Derived.Test.YtkefbbedaaceaaaT2
import Derived.Test.YtkefbbedaaceaaaM1
import Derived.Test.YtkefbbedaaceaaaSM
set_option linter.unusedVariables false
set_option linter.unusedSimpArgs false
set_option linter.unnecessarySimpa false
open Go Go.Am Go.Proofs Go.ChangeShapes Go.WideShapes Go.ChangeAt Go.RowKit
set_option maxRecDepth 20000
namespace T
variable {H : Type} {enc : TypeId × Value → H} {W : World} {sp : Nat → Bool} {base : Nat}
theorem tree_left {fuel : Nat} {cs : List Value} {x : DataW H × List MemPlace} (h : DataW.trod enc Try.prog W base sp true fuel 33 cs = some x) :
    ∃ (a : List (List Bool)) (v : Value), cs = [v] ∧ (∀ r ∈ a, r.length < 9223372036854775808) ∧ a.length ≤ maxLen ∧ TreeR W (startZ W) (.tree 1 (rowsOf eBs a)) v := by
  refine tree_rows eBs _ (e := 42) (by kernel_rfl) 1 (by kernel_rfl) (by decide) (fun fuel cs x h hl => ?_) h
  obtain ⟨xs, v, rfl, h1, h2, h3⟩ := tree_bools (e := 4) (by kernel_rfl) (by kernel_rfl) (by kernel_rfl) h
  refine ⟨xs, by unfold maxLen at h2; omega, rfl, fun c y hy => ?_⟩
  match c, hy with
  | 0, hy => simp [eBs] at hy; subst hy; exact h3
theorem reads_move : Reads Try.prog enc W base sp 58 eMv (fun _ => True) := by
  intro fuel cs x h
  obtain ⟨hl, n, hf⟩ := reads_fields ty58 rfl h
  obtain ⟨a, _, ha⟩ := rdInt (hf (0, 3, 1) (by simp))
  obtain ⟨b, _, hb⟩ := rdInt (hf (1, 3, 1) (by simp))
  obtain ⟨c, _, hc⟩ := rdInt (hf (2, 3, 1) (by simp))
  obtain ⟨d, _, hd⟩ := rdInt (hf (3, 3, 1) (by simp))
  exact ⟨⟨a, b, c, d⟩, trivial, .mk4 hl ha hb hc hd⟩
theorem tree_moves {fuel : Nat} {cs : List Value} {x : DataW H × List MemPlace} (h : DataW.trod enc Try.prog W base sp true fuel 38 cs = some x) :
    ∃ (a : List Mv) (v : Value), cs = [v] ∧ (∀ r ∈ a, True) ∧ a.length ≤ maxLen ∧ TreeR W (startZ W) (.tree 4 (rowsOf eMv a)) v := by
  refine tree_rows eMv _ (e := 58) (by kernel_rfl) 4 (by kernel_rfl) (by decide) (fun fuel cs x h hl => ?_) h
  obtain ⟨a, h1, h2, h3⟩ := reads_move fuel cs x h
  exact ⟨a, trivial, rfl, h3⟩
end T

