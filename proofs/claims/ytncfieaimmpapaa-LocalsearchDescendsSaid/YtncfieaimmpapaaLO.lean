import Derived.Test.YtncfieaimmpapaaL5
set_option linter.unusedVariables false
set_option linter.unusedSimpArgs false
open Go Go.Am
namespace T
theorem scLess_iff {s t : SC} : scLess s t = true ↔ s.1 < t.1 ∨ s.1 = t.1 ∧ s.2 < t.2 := by unfold scLess; rw [decide_eq_true_eq]
theorem scLess_trans {s t u : SC} (h : scLess s t = true) (k : scLess t u = true) : scLess s u = true := by
  rw [scLess_iff] at *; omega
structure BG (m : Mdl) (p : List Int) (z : BS) : Prop where
  no : z.2.2 = false → z.1 = scV m p
  yes : z.2.2 = true → scLess z.1 (scV m p) = true ∧ z.1 = scV m (p.set z.2.1.1.toNat z.2.1.2)
theorem bestS_bg {m : Mdl} {p : List Int} {c o : Nat} {z : BS} (h : BG m p z) : BG m p (bestS m p c o z) ∧ ((bestS m p c o z).2.2 = false → z.2.2 = false ∧ scLess (scV m (p.set c o)) (scV m p) = false) := by
  unfold bestS
  by_cases hs : scLess (scV m (p.set c o)) z.1 = true
  · rw [if_pos hs]
    refine ⟨⟨by simp, fun _ => ⟨?_, by simp⟩⟩, by simp⟩
    cases hz : z.2.2 with
    | false => rw [← h.no hz]; exact hs
    | true => exact scLess_trans hs (h.yes hz).1
  · rw [if_neg hs]
    refine ⟨h, fun hz => ⟨hz, ?_⟩⟩
    rw [← h.no hz]
    simpa using hs
theorem bestO_bg {m : Mdl} {p : List Int} {c : Nat} : ∀ (l : List Opt) (o : Nat) (z : BS), BG m p z → BG m p (bestO m p c o l z) ∧ ((bestO m p c o l z).2.2 = false → z.2.2 = false ∧ ∀ j, o ≤ j → j < o + l.length → scLess (scV m (p.set c (j : Nat))) (scV m p) = false)
  | [], o, z, h => ⟨h, fun hz => ⟨hz, fun j h1 h2 => by simp at h2; omega⟩⟩
  | x :: r, o, z, h => by
    rw [bestO]
    obtain ⟨h1, h2⟩ := bestS_bg (c := c) (o := o) h
    obtain ⟨h3, h4⟩ := bestO_bg r (o + 1) _ h1
    refine ⟨h3, fun hz => ?_⟩
    obtain ⟨h5, h6⟩ := h4 hz
    obtain ⟨h7, h8⟩ := h2 h5
    refine ⟨h7, fun j hj hj2 => ?_⟩
    rcases Nat.lt_or_ge o j with h9 | h9
    · exact h6 j (by omega) (by simp at hj2; omega)
    · obtain rfl : j = o := by omega
      exact h8
theorem bestC_bg {m : Mdl} {p : List Int} : ∀ (l : List (List Opt)) (c : Nat) (z : BS), BG m p z → BG m p (bestC m p c l z) ∧ ((bestC m p c l z).2.2 = false → z.2.2 = false ∧ ∀ i, i < l.length → ∀ j, j < (l.getD i default).length → scLess (scV m (p.set (c + i) (j : Nat))) (scV m p) = false)
  | [], c, z, h => ⟨h, fun hz => ⟨hz, fun j h1 => by simp at h1⟩⟩
  | x :: r, c, z, h => by
    rw [bestC]
    obtain ⟨h1, h2⟩ := bestO_bg (c := c) x 0 z h
    obtain ⟨h3, h4⟩ := bestC_bg r (c + 1) _ h1
    refine ⟨h3, fun hz => ?_⟩
    obtain ⟨h5, h6⟩ := h4 hz
    obtain ⟨h7, h8⟩ := h2 h5
    refine ⟨h7, fun i hi j hj => ?_⟩
    cases i with
    | zero => exact h8 j (Nat.zero_le _) (by simpa using hj)
    | succ i =>
      rw [show c + (i + 1) = c + 1 + i by omega]
      exact h6 i (by simpa using hi) j (by simpa using hj)
theorem bestV_bg (m : Mdl) (p : List Int) : BG m p (bestV m p) ∧ ((bestV m p).2.2 = false → ∀ i, i < m.cls.length → ∀ j, j < (m.cls.getD i default).length → scLess (scV m (p.set i (j : Nat))) (scV m p) = false) := by
  obtain ⟨h1, h2⟩ := bestC_bg (m := m) (p := p) m.cls 0 (scV m p, (0, 0), false) ⟨fun _ => rfl, by simp⟩
  refine ⟨h1, fun hz i hi j hj => ?_⟩
  have := (h2 hz).2 i hi j hj
  rwa [Nat.zero_add] at this
theorem descL_law {m : Mdl} (hm : VM m) : ∀ (k : Nat) (p : List Int) (n : Int), FP m p → FP m (descL m k p n).1 ∧ n ≤ (descL m k p n).2 ∧ (descL m k p n).2 ≤ n + k ∧
    ((descL m k p n).2 = n → (descL m k p n).1 = p) ∧ (n < (descL m k p n).2 → scLess (scV m (descL m k p n).1) (scV m p) = true) ∧
    ((descL m k p n).2 < n + k → (bestV m (descL m k p n).1).2.2 = false)
  | 0, p, n, h => by
    rw [descL]
    exact ⟨h, by dsimp only; omega, by dsimp only; omega, fun _ => rfl, fun h => by dsimp only at h; omega, fun h => by dsimp only at h; omega⟩
  | k + 1, p, n, h => by
    rw [descL]
    by_cases hb : (bestV m p).2.2 = true
    · rw [if_pos hb]
      have hopt := bestV_fd m p hb
      obtain ⟨b1, b2, b3, b4⟩ := optB_iff.1 hopt
      have hfp : FP m (p.set (bestV m p).2.1.1.toNat (bestV m p).2.1.2) := h.set (by rw [Int.toNat_of_nonneg b1]; exact hopt)
      obtain ⟨q1, q2, q3, q4, q5, q6⟩ := descL_law hm k _ (n + 1) hfp
      have hbg := (bestV_bg m p).1.yes hb
      rw [hbg.2] at hbg
      refine ⟨q1, by omega, by omega, fun he => by omega, fun _ => ?_, fun hlt => q6 (by omega)⟩
      by_cases he : (descL m k (p.set (bestV m p).2.1.1.toNat (bestV m p).2.1.2) (n + 1)).2 = n + 1
      · rw [q4 he]; exact hbg.1
      · exact scLess_trans (q5 (by omega)) hbg.1
    · rw [if_neg hb]
      refine ⟨h, by dsimp only; omega, by dsimp only; omega, fun _ => rfl, fun h => by dsimp only at h; omega, fun _ => ?_⟩
      simpa using hb
end T

