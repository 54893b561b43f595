import Derived.Test.YtncfieaimmpapaaCS3
set_option linter.unusedVariables false
set_option linter.unusedSimpArgs false
open Go Go.Am
namespace T
def LE (a b : List Int) : Prop := a.length = b.length ∧ ∀ i, a.getD i 0 ≤ b.getD i 0
theorem LE.refl (a : List Int) : LE a a := ⟨rfl, fun _ => Int.le_refl _⟩
theorem getD_setI (l : List Int) (n i : Nat) (x : Int) : (l.set n x).getD i 0 = if n = i ∧ i < l.length then x else l.getD i 0 := by
  rw [List.getD_eq_getElem?_getD, List.getElem?_set, List.getD_eq_getElem?_getD]
  by_cases h : n = i
  · subst h
    by_cases h2 : n < l.length
    · rw [if_pos rfl, if_pos h2, if_pos ⟨rfl, h2⟩]; rfl
    · rw [if_pos rfl, if_neg h2, if_neg (fun h => h2 h.2), List.getElem?_eq_none (by omega)]
  · rw [if_neg h, if_neg (fun h' => h h'.1)]
theorem LE.add {a b : List Int} (h : LE a b) {r c d : Int} (hcd : c ≤ d) : LE (addAt a r c) (addAt b r d) := by
  refine ⟨by simp only [addAt, List.length_set]; exact h.1, fun i => ?_⟩
  rw [addAt, addAt, getD_setI, getD_setI, h.1]
  have := h.2 i
  have := h.2 r.toNat
  split
  · unfold addC; omega
  · exact h.2 i
theorem LE.up {R : Int} {a b : List Int} (h : LE a b) (hb : OutOK R b) {r c : Int} (hc : 0 ≤ c) : LE a (addAt b r c) := by
  refine ⟨by simp only [addAt, List.length_set]; exact h.1, fun i => ?_⟩
  rw [addAt, getD_setI]
  have h1 := h.2 i
  have h2 := hb.get i
  unfold In41 at h2
  split
  · rename_i hh
    rw [hh.1]; unfold addC; omega
  · exact h1
def Up (p q : List Int) : Prop := p.length = q.length ∧ ∀ j, p.getD j 0 = q.getD j 0 ∨ p.getD j 0 < 0
theorem Up.set {p : List Int} {c : Nat} (o : Int) (h : p.getD c 0 = -1) : Up p (p.set c o) := by
  refine ⟨by simp, fun j => ?_⟩
  rw [getD_setI]
  split
  · rename_i hh
    rw [← hh.1, h]; omega
  · exact .inl rfl
theorem PM.set {m : Mdl} {p : List Int} (h : PM m p) {c : Nat} {o : Int} (ho : o = -1 ∨ optB m (c : Nat) o = true) : PM m (p.set c o) := by
  refine ⟨by rw [List.length_set]; exact h.len, fun j hj => ?_⟩
  rw [List.length_set] at hj
  rw [getD_setI]
  split
  · rename_i hh
    rw [← hh.1]; exact ho
  · exact h.get j hj
end T

