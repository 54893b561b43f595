import Derived.Test.YtncfieaimmpapaaLS
import Derived.Test.YtncfieaimmpapaaCS3
set_option linter.unusedVariables false
set_option linter.unusedSimpArgs false
open Go Go.Am
namespace T
def wtV : List Ld → Int → Int → Int
  | [], _, _ => 0
  | x :: r, i, o => if x.cls = i ∧ x.opt = o then x.wt else wtV r i o
def sumW (l : List Ld) : Nat → List Int → Int
  | _, [] => 0
  | i, o :: r => wtV l i o + sumW l (i + 1) r
theorem sumW_nil : ∀ (plan : List Int) (i : Nat), sumW [] i plan = 0
  | [], _ => rfl
  | o :: r, i => by rw [sumW, wtV, sumW_nil r]; rfl
theorem sumW_cons (x : Ld) (l : List Ld) : ∀ (plan : List Int) (i : Nat), sumW (x :: l) i plan = sumW l i plan + if (i : Int) ≤ x.cls ∧ x.cls < i + plan.length ∧ plan.getD (x.cls - i).toNat 0 = x.opt then x.wt - wtV l x.cls x.opt else 0
  | [], i => by rw [sumW, sumW, if_neg (by simp; omega)]; rfl
  | o :: r, i => by
    rw [sumW, sumW, sumW_cons x l r (i + 1), wtV]
    by_cases h : x.cls = i
    · rw [if_neg (c := ((i + 1 : Nat) : Int) ≤ x.cls ∧ _) (by omega)]
      rw [show (x.cls - i).toNat = 0 by omega, List.getD_cons_zero, List.length_cons]
      by_cases ho : x.opt = o
      · rw [if_pos ⟨h, ho⟩, if_pos ⟨by omega, by omega, ho.symm⟩, h, ho]; omega
      · rw [if_neg (fun h' => ho h'.2), if_neg (fun h' => ho h'.2.2.symm)]; omega
    · rw [if_neg (c := x.cls = i ∧ x.opt = o) (fun h' => h h'.1)]
      have e : ((i + 1 : Nat) : Int) ≤ x.cls ∧ x.cls < (i + 1 : Nat) + r.length ∧ r.getD (x.cls - (i + 1 : Nat)).toNat 0 = x.opt ↔ (i : Int) ≤ x.cls ∧ x.cls < i + (o :: r).length ∧ (o :: r).getD (x.cls - i).toNat 0 = x.opt := by
        rw [List.length_cons]
        by_cases hlt : (i : Int) < x.cls
        · rw [show (x.cls - i).toNat = (x.cls - (i + 1 : Nat)).toNat + 1 by omega, List.getD_cons_succ]
          constructor
          · rintro ⟨a, b, c⟩; exact ⟨by omega, by omega, c⟩
          · rintro ⟨a, b, c⟩; exact ⟨by omega, by omega, c⟩
        · constructor
          · rintro ⟨a, b, c⟩; omega
          · rintro ⟨a, b, c⟩; omega
      simp only [e]
      omega
theorem wtV_none : ∀ (l : List Ld) (i o : Int), (∀ y ∈ l, ¬ (y.cls = i ∧ y.opt = o)) → wtV l i o = 0
  | [], _, _, _ => rfl
  | x :: r, i, o, h => by rw [wtV, if_neg (h x (by simp)), wtV_none r i o fun y hy => h y (by simp [hy])]
theorem ldL_gt {m : Mdl} : ∀ {l : List Ld} {q : Ld}, ldL m (some q) l = true → ∀ y ∈ l, q.cls < y.cls ∨ (q.cls = y.cls ∧ q.opt < y.opt)
  | [], _, _, y, hy => by simp at hy
  | x :: r, q, h, y, hy => by
    rw [ldL] at h
    simp only [Bool.and_eq_true, decide_eq_true_eq] at h
    have h1 := ldOrd_lt.1 h.1.2
    rcases List.mem_cons.1 hy with rfl | hy
    · exact h1
    · have := ldL_gt h.2 y hy; omega
theorem loadS_sumW {m : Mdl} {plan : List Int} (hp : plan.length = m.cls.length) : ∀ {l : List Ld} {q : Option Ld} (n : Int), ldL m q l = true → loadS plan l n = n + sumW l 0 plan
  | [], _, n, _ => by rw [loadS, sumW_nil]; omega
  | x :: r, q, n, h => by
    have hr : ldL m (some x) r = true := by
      rw [ldL.eq_def] at h
      simp only [Bool.and_eq_true] at h
      exact h.2
    have hx := (ldL_mem h x (by simp)).1
    obtain ⟨a, b, c, d⟩ := optB_iff.1 hx
    rw [loadS, loadS_sumW hp _ hr, sumW_cons, wtV_none r x.cls x.opt (fun y hy he => by have := ldL_gt hr y hy; omega)]
    rw [show (x.cls - ((0 : Nat) : Int)).toNat = x.cls.toNat by simp]
    by_cases e : plan.getD x.cls.toNat 0 = x.opt
    · rw [if_pos e, if_pos ⟨by omega, by omega, e⟩]; omega
    · rw [if_neg e, if_neg (fun h' => e h'.2.2)]; omega
theorem wtV_range {l : List Ld} (h : ∀ x ∈ l, 1 ≤ x.wt ∧ x.wt ≤ 1000) (i o : Int) : 0 ≤ wtV l i o ∧ wtV l i o ≤ 1000 := by
  induction l with
  | nil => simp [wtV]
  | cons x r ih =>
    rw [wtV]
    have := h x (by simp)
    have := ih fun y hy => h y (by simp [hy])
    split <;> omega
def cplL (m : Mdl) : Nat → List Int → Bool
  | _, [] => true
  | i, o :: r => optB m i o && cplL m (i + 1) r
theorem cplL_eq {m : Mdl} : ∀ (plan : List Int) (i : Nat), cplL m i plan = (planL m i plan && !plan.contains (-1))
  | [], _ => rfl
  | o :: r, i => by
    rw [cplL, planL, cplL_eq r (i + 1), List.contains_cons]
    by_cases h : o = -1
    · subst h
      have : optB m i (-1) = false := by
        cases hb : optB m i (-1) with
        | false => rfl
        | true => have := optB_iff.1 hb; omega
      simp [this]
    · have h2 : ((-1 : Int) == o) = false := by simpa using fun e => h e.symm
      rw [h2, decide_eq_false h, Bool.false_or, Bool.false_or]
      cases optB m i o <;> simp
theorem comV_eq (m : Mdl) (plan : List Int) : comV m plan = if validV m ≠ 0 then validV m else if plan.length ≠ m.cls.length then 17 else if cplL m 0 plan = false then 17 else 0 := by
  unfold comV plannedV
  split
  · rfl
  · by_cases h : plan.length ≠ m.cls.length
    · simp [h]
    · rw [if_neg h, if_neg h, cplL_eq]
      cases planL m 0 plan <;> cases plan.contains (-1) <;> rfl
end T

