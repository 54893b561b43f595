import Derived.Test.YtncfieaimmpapaaCS2
set_option linter.unusedVariables false
set_option linter.unusedSimpArgs false
open Go Go.Am
namespace T
theorem chL_app {R : Int} {c : Int × Int} : ∀ {l : List (Int × Int)} {q : Option (Int × Int)}, chL R q l = true → ruleB R c.1 = true → priceB c.2 = true → (∀ x ∈ l, x.1 < c.1) → (∀ y, q = some y → y.1 < c.1) → chL R q (l ++ [c]) = true
  | [], q, _, h1, h2, _, h3 => by
    rw [List.nil_append, chL.eq_def]
    cases q with
    | none => simp [h1, h2, chL]
    | some y => simp [h1, h2, chL, h3 y rfl]
  | x :: r, q, h, h1, h2, h3, h4 => by
    rw [chL.eq_def] at h
    simp only [Bool.and_eq_true] at h
    rw [List.cons_append, chL.eq_def]
    simp only [Bool.and_eq_true]
    exact ⟨h.1, chL_app h.2 h1 h2 (fun y hy => h3 y (by simp [hy])) (fun y hy => by simp only [Option.some.injEq] at hy; subst hy; exact h3 _ (by simp))⟩
theorem prsL_app {m : Mdl} {c : Pr} : ∀ {l : List Pr} {q : Option Pr}, prsL m q l = true → pairB m c = true → (∀ x ∈ l, ordV x c < 0) → (∀ y, q = some y → ordV y c < 0) → prsL m q (l ++ [c]) = true
  | [], q, _, h1, _, h3 => by
    rw [List.nil_append, prsL.eq_def]
    cases q with
    | none => simp [h1, prsL]
    | some y => simp [h1, prsL, h3 y rfl]
  | x :: r, q, h, h1, h3, h4 => by
    rw [prsL.eq_def] at h
    simp only [Bool.and_eq_true] at h
    rw [List.cons_append, prsL.eq_def]
    simp only [Bool.and_eq_true]
    exact ⟨h.1, prsL_app h.2 h1 (fun y hy => h3 y (by simp [hy])) (fun y hy => by simp only [Option.some.injEq] at hy; subst hy; exact h3 _ (by simp))⟩
theorem ldL_app {m : Mdl} {c : Ld} : ∀ {l : List Ld} {q : Option Ld}, ldL m q l = true → optB m c.cls c.opt = true → (1 ≤ c.wt ∧ c.wt ≤ 1000) → (∀ x ∈ l, ldOrd x c < 0) → (∀ y, q = some y → ldOrd y c < 0) → ldL m q (l ++ [c]) = true
  | [], q, _, h1, h2, _, h3 => by
    rw [List.nil_append, ldL.eq_def]
    cases q with
    | none => simp [h1, h2, ldL]
    | some y => simp [h1, h2, ldL, h3 y rfl]
  | x :: r, q, h, h1, h2, h3, h4 => by
    rw [ldL.eq_def] at h
    simp only [Bool.and_eq_true] at h
    rw [List.cons_append, ldL.eq_def]
    simp only [Bool.and_eq_true]
    exact ⟨h.1, ldL_app h.2 h1 h2 (fun y hy => h3 y (by simp [hy])) (fun y hy => by simp only [Option.some.injEq] at hy; subst hy; exact h3 _ (by simp))⟩
theorem prsL_same {cls : List (List Opt)} {R : Int} {a b : List Pr} {c d : List Ct} : ∀ (l : List Pr) (q : Option Pr), prsL ⟨cls, a, c, R⟩ q l = prsL ⟨cls, b, d, R⟩ q l
  | [], _ => rfl
  | x :: r, q => by
    have := prsL_same (cls := cls) (R := R) (a := a) (b := b) (c := c) (d := d) r (some x)
    cases q <;> simp only [prsL, this] <;> rfl
theorem ldL_same {cls : List (List Opt)} {R : Int} {a b : List Pr} {c d : List Ct} : ∀ (l : List Ld) (q : Option Ld), ldL ⟨cls, a, c, R⟩ q l = ldL ⟨cls, b, d, R⟩ q l
  | [], _ => rfl
  | x :: r, q => by
    have := ldL_same (cls := cls) (R := R) (a := a) (b := b) (c := c) (d := d) r (some x)
    cases q <;> simp only [ldL, this] <;> rfl
theorem ctB_same {cls : List (List Opt)} {R : Int} {a b : List Pr} {c d : List Ct} (x : Ct) : ctB ⟨cls, a, c, R⟩ x = ctB ⟨cls, b, d, R⟩ x := by
  unfold ctB; rw [ldL_same (a := a) (b := b) (c := c) (d := d)]
theorem costV_range (L : List Int) (k : Nat) : 0 ≤ costV L k ∧ costV L k ≤ 1099511627776 ∧ (0 < costV L k → priceB (costV L k) = true) := by
  have h6 := nextV_range (L := L) (k := k) (n := 6) (by omega)
  have h20 := nextV_range (L := L) (k := nextA L k) (n := 20) (by omega)
  unfold costV
  split
  · exact ⟨by omega, by omega, by omega⟩
  · split
    · exact ⟨by omega, by omega, fun _ => by decide⟩
    · refine ⟨by omega, by omega, fun _ => ?_⟩
      rw [priceB, decide_eq_true_eq]; omega
theorem costA_le {L : List Int} {k : Nat} (h : k ≤ L.length) : costA L k ≤ L.length := by
  unfold costA; split
  · exact nextA_le h
  · exact nextA_le (nextA_le h)
structure MM (m : Mdl) (classes options : Nat) : Prop where
  vm : VM m
  few : m.cls.length ≤ classes
  some : ∀ l ∈ m.cls, 1 ≤ l.length ∧ l.length ≤ options
  rul : 1 ≤ m.rules ∧ m.rules ≤ 4
  cts : m.cts.length ≤ 2
theorem VM.mb {m : Mdl} (h : VM m) : MB m := by
  refine ⟨by have := h.cls; omega, fun l hl => by have := h.opt l hl; omega, fun l hl o ho => ?_, by have := h.prs; omega, fun p hp => ?_, by have := h.cts; omega, fun c hc => ?_⟩
  · have := chL_len0 h.rul.1 (h.chs l hl o ho)
    have := h.rul; omega
  · obtain ⟨_, h1, h2, h3, h4⟩ := pairB_iff (prsL_mem h.pr p hp)
    have a := h.opt _ (getD_mem (l := m.cls) (i := p.fst.toNat) (d := default) (by omega))
    have b := h.opt _ (getD_mem (l := m.cls) (i := p.snd.toNat) (d := default) (by omega))
    have : ((m.cls.getD p.fst.toNat default).length : Int) * (m.cls.getD p.snd.toNat default).length ≤ 24 * 24 := Int.mul_le_mul (by omega) (by omega) (by omega) (by omega)
    omega
  · have := ldL_len0 h (ctB_iff (h.ct c hc)).2.2.2
    omega
def mOs (L : List Int) (k : Nat) (cls : List (List Opt)) (prs : List Pr) (cts : List Ct) (R : Int) : List Ob :=
  [.var [.tree 1 (ints L), .lit (.int .i64 k)], .var [.lit (.slice none 0 0), .lit (.slice none 0 0), .lit (.slice none 0 0), .lit (.int .i64 0)],
    .var [.ref 3 1 0 cls.length, .ref 4 4 0 prs.length, .ref 5 4 0 cts.length, .lit (.int .i64 R)], .arr 1 (rowsOf eCls cls), .arr 4 (rowsOf ePr prs), .arr 4 (rowsOf eCt cts)]
def COK (R : Int) (l : List Opt) : Prop := ∀ o ∈ l, chL R none o.ch = true
def lexlt (p : Pr) (u i k : Nat) : Prop := p.rule < u ∨ (p.rule = u ∧ (p.fst < i ∨ (p.fst = i ∧ p.snd < k)))
structure PInv (cls : List (List Opt)) (R : Int) (prs : List Pr) (u i k : Nat) : Prop where
  ok : prsL ⟨cls, [], [], R⟩ none prs = true
  lt : ∀ p ∈ prs, lexlt p u i k
  len : prs.length ≤ 576 * u + 24 * i + k
theorem PInv.mono {cls : List (List Opt)} {R : Int} {prs : List Pr} {u i k u' i' k' : Nat} (h : PInv cls R prs u i k) (hl : u < u' ∨ (u = u' ∧ (i < i' ∨ (i = i' ∧ k ≤ k')))) (hs : 576 * u + 24 * i + k ≤ 576 * u' + 24 * i' + k') : PInv cls R prs u' i' k' :=
  ⟨h.ok, fun p hp => by have := h.lt p hp; unfold lexlt at *; omega, by have := h.len; omega⟩
theorem PInv.app {cls : List (List Opt)} {R : Int} {prs : List Pr} {u i k : Nat} (h : PInv cls R prs u i k) {tab : List Int} (hp : pairB ⟨cls, [], [], R⟩ ⟨i, k, u, tab⟩ = true) : PInv cls R (prs ++ [⟨i, k, u, tab⟩]) u i (k + 1) := by
  refine ⟨prsL_app h.ok hp (fun x hx => ?_) (by simp), fun p hp => ?_, by have := h.len; simp; omega⟩
  · have := h.lt x hx
    rw [ordV_lt]; unfold lexlt at this; dsimp only; omega
  · rcases List.mem_append.1 hp with hp | hp
    · have := h.lt p hp; unfold lexlt at *; omega
    · simp only [List.mem_singleton] at hp; subst hp; unfold lexlt; dsimp only; omega
theorem pairB_mk {cls : List (List Opt)} {R : Int} {tab : List Int} {i k u : Nat} (hu : (u : Int) < R) (hik : i < k) (hk : k < cls.length) (ht : tab.length = (cls.getD i default).length * (cls.getD k default).length) (hc : ∀ x ∈ tab, 0 ≤ x ∧ (0 < x → priceB x = true)) :
    pairB ⟨cls, [], [], R⟩ ⟨i, k, u, tab⟩ = true := by
  unfold pairB ruleB
  simp only [Bool.and_eq_true, decide_eq_true_eq, Bool.not_eq_true', Int.toNat_natCast, List.any_eq_false]
  refine ⟨⟨⟨by omega, hu⟩, by omega, by omega, by omega, ?_⟩, fun x hx => ?_⟩
  · rw [ht]; simp
  · unfold badN
    have := hc x hx
    by_cases h0 : x = 0
    · subst h0; decide
    · rw [this.2 (by omega)]; simp
structure LInv (cls : List (List Opt)) (R : Int) (l : List Ld) (i k : Nat) : Prop where
  ok : ldL ⟨cls, [], [], R⟩ none l = true
  lt : ∀ x ∈ l, x.cls < i ∨ (x.cls = i ∧ x.opt < k)
  len : l.length ≤ 24 * i + k
theorem LInv.mono {cls : List (List Opt)} {R : Int} {l : List Ld} {i k i' k' : Nat} (h : LInv cls R l i k) (hl : i < i' ∨ (i = i' ∧ k ≤ k')) (hs : 24 * i + k ≤ 24 * i' + k') : LInv cls R l i' k' :=
  ⟨h.ok, fun p hp => by have := h.lt p hp; omega, by have := h.len; omega⟩
theorem LInv.app {cls : List (List Opt)} {R : Int} {l : List Ld} {i k : Nat} (h : LInv cls R l i k) {w : Int} (hi : i < cls.length) (hk : k < (cls.getD i default).length) (hw : 1 ≤ w ∧ w ≤ 1000) : LInv cls R (l ++ [⟨i, k, w⟩]) i (k + 1) := by
  refine ⟨ldL_app h.ok (optB_iff.2 ⟨by dsimp only; omega, by dsimp only; omega, by dsimp only; omega, by simp; exact hk⟩) hw (fun x hx => ?_) (by simp), fun p hp => ?_, by have := h.len; simp; omega⟩
  · have := h.lt x hx
    rw [ldOrd_lt]; dsimp only; omega
  · rcases List.mem_append.1 hp with hp | hp
    · have := h.lt p hp; omega
    · simp only [List.mem_singleton] at hp; subst hp; dsimp only; omega
def planF (L : List Int) (b : Bool) : List (List Opt) → Nat → List Int → List Int × Nat
  | [], k, acc => (acc, k)
  | l :: r, k, acc => planF L b r (nextA L k) (acc ++ [if b = true then nextV L k l.length else nextV L k (l.length + 1) - 1])
def sumL : List Int → Int
  | [] => 0
  | x :: r => x + sumL r
theorem sumL_nonneg : ∀ {l : List Int}, (∀ x ∈ l, In41 x) → 0 ≤ sumL l ∧ sumL l ≤ 1099511627776 * l.length
  | [], _ => by simp [sumL]
  | x :: r, h => by
    have := sumL_nonneg fun y hy => h y (List.mem_cons_of_mem x hy)
    have := h x (by simp)
    unfold In41 at this
    simp only [sumL, List.length_cons]; omega
theorem sumL_mem : ∀ {l : List Int}, (∀ x ∈ l, In41 x) → ∀ x ∈ l, x ≤ sumL l
  | [], _, x, hx => by simp at hx
  | y :: r, h, x, hx => by
    have hr : ∀ z ∈ r, In41 z := fun z hz => h z (by simp [hz])
    have := (sumL_nonneg hr).1
    have hy := h y (by simp)
    unfold In41 at hy
    rcases List.mem_cons.1 hx with rfl | hx
    · simp only [sumL]; omega
    · have := sumL_mem hr x hx; simp only [sumL]; omega
end T

