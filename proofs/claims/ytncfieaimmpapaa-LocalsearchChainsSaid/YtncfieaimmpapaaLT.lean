import Derived.Test.YtncfieaimmpapaaLS
import Derived.Test.YtncfieaimmpapaaCS3
set_option linter.unusedVariables false
set_option linter.unusedSimpArgs false
open Go Go.Am
namespace T
theorem sumL_set : ∀ (l : List Int) (i : Nat) (x : Int), i < l.length → sumL (l.set i x) = sumL l - l.getD i 0 + x
  | [], i, x, h => by simp at h
  | y :: r, 0, x, _ => by simp only [List.set_cons_zero, sumL, List.getD_cons_zero]; omega
  | y :: r, i + 1, x, h => by
    have := sumL_set r i x (by simpa using h)
    simp only [List.set_cons_succ, sumL, List.getD_cons_succ]; omega
structure Rel (R : Int) (out : List Int) (s : SC) (n : Nat) : Prop where
  ok : OutOK R out
  b0 : 0 ≤ s.1
  c0 : 0 ≤ s.2 ∧ s.2 ≤ 1048576 * n
  eq : s.1 = 0 → sumL out = s.2
  ff : 0 < s.1 → 1099511627776 ∈ out
theorem Rel.mono {R : Int} {out : List Int} {s : SC} {n k : Nat} (h : Rel R out s n) (hk : n ≤ k) : Rel R out s k :=
  ⟨h.ok, h.b0, by have := h.c0; omega, h.eq, h.ff⟩
theorem Rel.add {R : Int} {out : List Int} {s : SC} {n k : Nat} (h : Rel R out s n) {r d c t : Int} (hr : 0 ≤ r ∧ r < R) (ht : 0 ≤ t)
    (hc : (c = 1099511627776 ∧ d = if 0 < t then 1099511627776 else 0) ∨ (c ≠ 1099511627776 ∧ d = c * t ∧ 0 ≤ d ∧ d ≤ 1048576 * k)) (hb : n + k < 1048576) :
    Rel R (addAt out r d) (scAdd s c t) (n + k) := by
  have hin : In41 d := by
    unfold In41
    rcases hc with ⟨_, h⟩ | ⟨_, _, h1, h2⟩
    · rw [h]; split <;> omega
    · omega
  have hlen := h.ok.1
  have hi : r.toNat < out.length := by omega
  have hg := h.ok.get r.toNat
  have hmem := getD_mem (d := (0 : Int)) hi
  have hs := sumL_mem h.ok.2 _ hmem
  have hset := sumL_set out r.toNat (addC (out.getD r.toNat 0) d) hi
  have hc0 := h.c0
  have hb0 := h.b0
  have hself : addC (out.getD r.toNat 0) d ∈ addAt out r d := by
    unfold addAt
    have : (out.set r.toNat (addC (out.getD r.toNat 0) d)).getD r.toNat 0 = addC (out.getD r.toNat 0) d := by
      rw [List.getD_eq_getElem?_getD, List.getElem?_set_self hi]; rfl
    have hm' := getD_mem (l := out.set r.toNat (addC (out.getD r.toNat 0) d)) (i := r.toNat) (d := 0) (by simpa using hi)
    rwa [this] at hm'
  have hstay : 1099511627776 ∈ out → 1099511627776 ∈ addAt out r d := by
    intro hm
    obtain ⟨j, hj, hje⟩ := List.mem_iff_getElem.1 hm
    by_cases hjr : r.toNat = j
    · subst hjr
      have : out.getD r.toNat 0 = 1099511627776 := by rw [List.getD_eq_getElem?_getD, List.getElem?_eq_getElem hj]; exact hje
      rw [this] at hself
      have e : addC 1099511627776 d = 1099511627776 := by unfold In41 at hin; unfold addC; omega
      rwa [e] at hself
    · have : (addAt out r d).getD j 0 = 1099511627776 := by
        unfold addAt
        rw [List.getD_eq_getElem?_getD, List.getElem?_set_ne hjr, List.getElem?_eq_getElem hj]; exact hje
      have hm' := getD_mem (l := addAt out r d) (i := j) (d := 0) (by unfold addAt; simpa using hj)
      rwa [this] at hm'
  unfold In41 at hg hin
  rcases hc with ⟨hcF, hd⟩ | ⟨hcF, hd, hd0, hdk⟩
  · unfold scAdd
    rw [if_pos hcF]
    refine ⟨h.ok.add (by unfold In41; exact hin), by dsimp only; omega, by dsimp only; omega, fun hz => ?_, fun hz => ?_⟩
    · dsimp only at hz ⊢
      have : d = 0 := by rw [hd, if_neg (by omega)]
      rw [← h.eq (by omega)]
      unfold addAt
      rw [hset]
      unfold addC
      omega
    · dsimp only at hz
      by_cases htz : 0 < t
      · have : addC (out.getD r.toNat 0) d = 1099511627776 := by rw [hd, if_pos htz]; unfold addC; omega
        rwa [this] at hself
      · exact hstay (h.ff (by omega))
  · unfold scAdd
    rw [if_neg hcF, ← hd]
    refine ⟨h.ok.add (by unfold In41; exact hin), by dsimp only; omega, by dsimp only; omega, fun hz => ?_, fun hz => ?_⟩
    · dsimp only at hz ⊢
      have he := h.eq hz
      unfold addAt
      rw [hset]
      unfold addC
      omega
    · exact hstay (h.ff hz)
end T

