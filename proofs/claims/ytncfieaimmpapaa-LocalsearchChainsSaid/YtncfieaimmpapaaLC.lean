import Derived.Test.YtncfieaimmpapaaLR
import Derived.Test.YtncfieaimmpapaaLT
set_option linter.unusedVariables false
set_option linter.unusedSimpArgs false
open Go Go.Am
namespace T
def tmO (o : Opt) : List Int := [o.wk, o.day, o.st, o.len]
def plO (o : Opt) : List Int := [o.wk, o.day, o.st, o.len, o.room]
def clP (m : Mdl) (a x b y : Int) (p : Pr) : Bool := decide (p.fst = a ∧ p.snd = b ∧ entryV m p x y = 1099511627776)
def clV (m : Mdl) (a x b y : Int) : Bool := if b < a then m.prs.any (clP m b y a x) else m.prs.any (clP m a x b y)
def idxP (pl : List Int) : Nat → List Opt → Int
  | _, [] => -1
  | k, o :: r => if plO o = pl then (k : Int) else idxP pl (k + 1) r
theorem idxP_spec (pl : List Int) : ∀ (l : List Opt) (k : Nat), idxP pl k l = -1 ∨ ∃ j : Nat, j < l.length ∧ idxP pl k l = (k + j : Nat) ∧ plO (l.getD j default) = pl
  | [], k => .inl rfl
  | o :: r, k => by
    rw [idxP]
    split
    · rename_i h; exact .inr ⟨0, by simp, rfl, by simpa using h⟩
    · rcases idxP_spec pl r (k + 1) with h | ⟨j, h1, h2, h3⟩
      · exact .inl h
      · exact .inr ⟨j + 1, by simpa using h1, by rw [h2]; congr 1; omega, by simpa using h3⟩
def acV (l : List Opt) (o : Int) (t u : List Int) : Int :=
  if tmO (l.getD o.toNat default) = t then idxP (u ++ [(l.getD o.toNat default).room]) 0 l
  else if tmO (l.getD o.toNat default) = u then idxP (t ++ [(l.getD o.toNat default).room]) 0 l else -1
def chY (m : Mdl) (t u : List Int) (x : Int) : Nat → Nat → List Int → List Int → Option (List Int × List Int)
  | 0, _, out, mv => some (out, mv)
  | r + 1, y, out, mv =>
    if (mv.contains (y : Int) || !clV m x (out.getD x.toNat 0) y (out.getD y 0)) = true then chY m t u x r (y + 1) out mv
    else if acV (m.cls.getD y default) (out.getD y 0) t u < 0 then none
    else chY m t u x r (y + 1) (out.set y (acV (m.cls.getD y default) (out.getD y 0) t u)) (mv ++ [(y : Int)])
def chI (m : Mdl) (t u : List Int) : Nat → Nat → List Int → List Int → Option (List Int × List Int)
  | 0, _, out, mv => some (out, mv)
  | f + 1, i, out, mv =>
    if i < mv.length then
      match chY m t u (mv.getD i 0) out.length 0 out mv with
      | none => none
      | some z => chI m t u f (i + 1) z.1 z.2
    else some (out, mv)
def chK (m : Mdl) (out : List Int) (x : Int) : List Int → Bool
  | [] => true
  | y :: r => if clV m x (out.getD x.toNat 0) y (out.getD y.toNat 0) = true then false else chK m out x r
def chJ (m : Mdl) (out mv : List Int) : Nat → List Int → Bool
  | _, [] => true
  | i, x :: r => if chK m out x (mv.take i) = true then chJ m out mv (i + 1) r else false
def chT (m : Mdl) (plan : List Int) (c o : Int) : List Int × Bool :=
  match chI m (tmO ((m.cls.getD c.toNat default).getD (plan.getD c.toNat 0).toNat default)) (tmO ((m.cls.getD c.toNat default).getD o.toNat default)) (plan.length + 1) 0 (plan.set c.toNat o) [c] with
  | none => ([], false)
  | some z => if chJ m z.1 z.2 0 z.2 = true then (z.1, true) else ([], false)
def chainV (m : Mdl) (plan : List Int) (c o : Int) : List Int × Bool :=
  if comV m plan ≠ 0 ∨ optB m c o = false then ([], false)
  else if tmO ((m.cls.getD c.toNat default).getD (plan.getD c.toNat 0).toNat default) = tmO ((m.cls.getD c.toNat default).getD o.toNat default) then ([], false)
  else chT m plan c o
structure CI (m : Mdl) (plan out mv : List Int) : Prop where
  fp : FP m out
  nd : mv.Nodup
  rg : ∀ x ∈ mv, 0 ≤ x ∧ x < out.length
  un : ∀ y : Nat, y < out.length → ¬ (y : Int) ∈ mv → out.getD y 0 = plan.getD y 0
theorem nodup_len : ∀ {n : Nat} {l : List Int}, l.Nodup → (∀ x ∈ l, 0 ≤ x ∧ x < n) → l.length ≤ n
  | 0, l, h, hr => by
    cases l with
    | nil => simp
    | cons x r => have := hr x (by simp); omega
  | n + 1, l, h, hr => by
    by_cases hm : (n : Int) ∈ l
    · have h1 := List.length_erase_of_mem hm
      have h2 := nodup_len (n := n) (h.erase (n : Int)) fun x hx => by
        have h3 := (List.Nodup.mem_erase_iff h).1 hx
        have := hr x h3.2
        omega
      omega
    · have := nodup_len (n := n) h fun x hx => by
        have := hr x hx
        have : x ≠ n := fun e => hm (e ▸ hx)
        omega
      omega
theorem CI.len {m : Mdl} {plan out mv : List Int} (h : CI m plan out mv) : mv.length ≤ out.length := nodup_len h.nd h.rg
theorem acV_opt {m : Mdl} {y : Nat} {o : Int} {t u : List Int} (hy : y < m.cls.length) (h : ¬ acV (m.cls.getD y default) o t u < 0) : optB m (y : Nat) (acV (m.cls.getD y default) o t u) = true := by
  rw [optB_iff, Int.toNat_natCast]
  refine ⟨by omega, by omega, by omega, ?_⟩
  unfold acV at *
  split at h
  · rename_i h1
    rw [if_pos h1]
    rcases idxP_spec (u ++ [((m.cls.getD y default).getD o.toNat default).room]) (m.cls.getD y default) 0 with h2 | ⟨j, h2, h3, _⟩ <;> omega
  · rename_i h1
    rw [if_neg h1]
    split at h
    · rename_i h1
      rw [if_pos h1]
      rcases idxP_spec (t ++ [((m.cls.getD y default).getD o.toNat default).room]) (m.cls.getD y default) 0 with h2 | ⟨j, h2, h3, _⟩ <;> omega
    · omega
theorem CI.step {m : Mdl} {plan out mv : List Int} (h : CI m plan out mv) {y : Nat} (hy : y < out.length) (hm : ¬ (y : Int) ∈ mv) {o : Int} (ho : optB m (y : Nat) o = true) : CI m plan (out.set y o) (mv ++ [(y : Int)]) := by
  refine ⟨?_, ?_, ?_, ?_⟩
  · refine ⟨by rw [List.length_set]; exact h.fp.len, fun j hj => ?_⟩
    rw [List.length_set] at hj
    by_cases e : y = j
    · subst e
      rw [List.getD_eq_getElem?_getD, List.getElem?_set_self hj]
      exact ho
    · rw [List.getD_eq_getElem?_getD, List.getElem?_set_ne e, ← List.getD_eq_getElem?_getD]
      exact h.fp.get j hj
  · rw [List.nodup_append]
    refine ⟨h.nd, by simp, fun a ha b hb => ?_⟩
    rw [List.mem_singleton] at hb
    subst hb
    intro e; subst e; exact hm ha
  · intro x hx
    rw [List.length_set]
    rcases List.mem_append.1 hx with hx | hx
    · exact h.rg x hx
    · rw [List.mem_singleton.1 hx]; omega
  · intro j hj hn
    rw [List.length_set] at hj
    rw [List.mem_append, not_or, List.mem_singleton] at hn
    rw [List.getD_eq_getElem?_getD, List.getElem?_set_ne (by omega), ← List.getD_eq_getElem?_getD]
    exact h.un j hj hn.1
theorem CI.start {m : Mdl} {plan : List Int} (hp : FP m plan) {c : Nat} {o : Int} (ho : optB m (c : Nat) o = true) : CI m plan (plan.set c o) [(c : Int)] := by
  have hc : c < plan.length := by have := optB_iff.1 ho; have := hp.len; omega
  have h0 : CI m plan plan [] := ⟨hp, by simp, by simp, fun _ _ _ => rfl⟩
  exact h0.step hc (by simp) ho
end T

