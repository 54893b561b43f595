import Derived.Test.YtjbfepcaobnbpaaGreatDoorX05
import Derived.Lib.Bytealg
set_option linter.unusedVariables false
set_option linter.unusedSimpArgs false
set_option linter.unnecessarySimpa false
set_option linter.unusedSectionVars false
section
/- STORES FOR THE MIRROR: nested structures of eight, made for the kernel -/
namespace Go.Am

structure O8 (α : Type) where
  a0 : α
  a1 : α
  a2 : α
  a3 : α
  a4 : α
  a5 : α
  a6 : α
  a7 : α

inductive D8 where
  | d0 | d1 | d2 | d3 | d4 | d5 | d6 | d7

section
variable {α β : Type}
noncomputable def sel (d : D8) : O8 α → α := @D8.rec (fun _ => O8 α → α) O8.a0 O8.a1 O8.a2 O8.a3 O8.a4 O8.a5 O8.a6 O8.a7 d
noncomputable def w0 (o : O8 α) (v : α) : O8 α := @O8.rec α (fun _ => O8 α) (fun _ a1 a2 a3 a4 a5 a6 a7 => ⟨v, a1, a2, a3, a4, a5, a6, a7⟩) o
noncomputable def w1 (o : O8 α) (v : α) : O8 α := @O8.rec α (fun _ => O8 α) (fun a0 _ a2 a3 a4 a5 a6 a7 => ⟨a0, v, a2, a3, a4, a5, a6, a7⟩) o
noncomputable def w2 (o : O8 α) (v : α) : O8 α := @O8.rec α (fun _ => O8 α) (fun a0 a1 _ a3 a4 a5 a6 a7 => ⟨a0, a1, v, a3, a4, a5, a6, a7⟩) o
noncomputable def w3 (o : O8 α) (v : α) : O8 α := @O8.rec α (fun _ => O8 α) (fun a0 a1 a2 _ a4 a5 a6 a7 => ⟨a0, a1, a2, v, a4, a5, a6, a7⟩) o
noncomputable def w4 (o : O8 α) (v : α) : O8 α := @O8.rec α (fun _ => O8 α) (fun a0 a1 a2 a3 _ a5 a6 a7 => ⟨a0, a1, a2, a3, v, a5, a6, a7⟩) o
noncomputable def w5 (o : O8 α) (v : α) : O8 α := @O8.rec α (fun _ => O8 α) (fun a0 a1 a2 a3 a4 _ a6 a7 => ⟨a0, a1, a2, a3, a4, v, a6, a7⟩) o
noncomputable def w6 (o : O8 α) (v : α) : O8 α := @O8.rec α (fun _ => O8 α) (fun a0 a1 a2 a3 a4 a5 _ a7 => ⟨a0, a1, a2, a3, a4, a5, v, a7⟩) o
noncomputable def w7 (o : O8 α) (v : α) : O8 α := @O8.rec α (fun _ => O8 α) (fun a0 a1 a2 a3 a4 a5 a6 _ => ⟨a0, a1, a2, a3, a4, a5, a6, v⟩) o
noncomputable def wr (d : D8) : O8 α → α → O8 α := @D8.rec (fun _ => O8 α → α → O8 α) w0 w1 w2 w3 w4 w5 w6 w7 d
/-- forced -/
noncomputable def fo (o : O8 α) (k : O8 α → β) : β := @O8.rec α (fun _ => β) (fun a0 a1 a2 a3 a4 a5 a6 a7 => k ⟨a0, a1, a2, a3, a4, a5, a6, a7⟩) o

theorem fo_eq (o : O8 α) (k : O8 α → β) : fo o k = k o := by cases o; rfl
theorem sel_wr (d : D8) (o : O8 α) (v : α) : sel d (wr d o v) = v := by cases o; cases d <;> rfl
theorem sel_wr_ne {d d' : D8} (h : d' ≠ d) (o : O8 α) (v : α) : sel d' (wr d o v) = sel d' o := by
  cases o
  cases d <;> cases d' <;> first | exact absurd rfl h | rfl
end

noncomputable def d8t (a : Bool) : Bool → Bool → D8 :=
  @Bool.rec (fun _ => Bool → Bool → D8) (fun b c => @Bool.rec (fun _ => D8) (@Bool.rec (fun _ => D8) .d0 .d4 c) (@Bool.rec (fun _ => D8) .d2 .d6 c) b)
    (fun b c => @Bool.rec (fun _ => D8) (@Bool.rec (fun _ => D8) .d1 .d5 c) (@Bool.rec (fun _ => D8) .d3 .d7 c) b) a
noncomputable def dig (n : Nat) : D8 := d8t (Nat.testBit n 0) (Nat.testBit n 1) (Nat.testBit n 2)

theorem d8t_inj {a b c a' b' c' : Bool} (h : d8t a b c = d8t a' b' c') : a = a' ∧ b = b' ∧ c = c' := by
  revert h
  cases a <;> cases b <;> cases c <;> cases a' <;> cases b' <;> cases c' <;> intro h <;> first | exact ⟨rfl, rfl, rfl⟩ | (exact absurd h (by intro e; cases e))

theorem dig_inj {a b : Nat} (h : dig a = dig b) : a % 8 = b % 8 := by
  obtain ⟨h0, h1, h2⟩ := d8t_inj h
  have e : ∀ n : Nat, n % 8 = (if n.testBit 0 then 1 else 0) + (if n.testBit 1 then 2 else 0) + (if n.testBit 2 then 4 else 0) := by
    intro n
    have t0 : n.testBit 0 = decide (n % 2 = 1) := by simp [Nat.testBit_zero]
    have t1 : n.testBit 1 = decide (n / 2 % 2 = 1) := by simp [Nat.testBit_succ, Nat.testBit_zero]
    have t2 : n.testBit 2 = decide (n / 2 / 2 % 2 = 1) := by simp [Nat.testBit_succ, Nat.testBit_zero]
    rw [t0, t1, t2]
    simp only [decide_eq_true_eq]
    split <;> split <;> split <;> omega
  rw [e a, e b, h0, h1, h2]

abbrev E3 := O8 (O8 (O8 AV))
abbrev E5 := O8 (O8 (O8 (O8 (O8 Ob))))

section
variable {α β : Type}
noncomputable def g3 (t : Nat) (e : O8 (O8 (O8 α))) : α := sel (dig t) (sel (dig (Nat.div t 8)) (sel (dig (Nat.div t 64)) e))
noncomputable def p3 (t : Nat) (v : α) (e : O8 (O8 (O8 α))) (k : O8 (O8 (O8 α)) → β) : β :=
  fo (wr (dig t) (sel (dig (Nat.div t 8)) (sel (dig (Nat.div t 64)) e)) v) fun r1 =>
  fo (wr (dig (Nat.div t 8)) (sel (dig (Nat.div t 64)) e) r1) fun r2 =>
  fo (wr (dig (Nat.div t 64)) e r2) k
noncomputable def s3 (t : Nat) (v : α) (e : O8 (O8 (O8 α))) : O8 (O8 (O8 α)) :=
  wr (dig (Nat.div t 64)) e (wr (dig (Nat.div t 8)) (sel (dig (Nat.div t 64)) e) (wr (dig t) (sel (dig (Nat.div t 8)) (sel (dig (Nat.div t 64)) e)) v))
theorem p3_eq (t : Nat) (v : α) (e : O8 (O8 (O8 α))) (k : O8 (O8 (O8 α)) → β) : p3 t v e k = k (s3 t v e) := by
  unfold p3 s3; rw [fo_eq, fo_eq, fo_eq]
theorem g3_s3 (t : Nat) (v : α) (e : O8 (O8 (O8 α))) : g3 t (s3 t v e) = v := by
  unfold g3 s3; rw [sel_wr, sel_wr, sel_wr]
theorem g3_ne {t u : Nat} (ht : t < 512) (hu : u < 512) (h : u ≠ t) (v : α) (e : O8 (O8 (O8 α))) : g3 u (s3 t v e) = g3 u e := by
  unfold g3 s3
  by_cases h2 : dig (Nat.div u 64) = dig (Nat.div t 64)
  · rw [h2, sel_wr]
    by_cases h1 : dig (Nat.div u 8) = dig (Nat.div t 8)
    · rw [h1, sel_wr]
      refine sel_wr_ne (fun h0 => h ?_) _ _
      have e0 := dig_inj h0
      have e1 := dig_inj h1
      have e2 := dig_inj h2
      change (u / 8) % 8 = (t / 8) % 8 at e1
      change (u / 64) % 8 = (t / 64) % 8 at e2
      omega
    · rw [sel_wr_ne h1]
  · rw [sel_wr_ne h2]

noncomputable def g5 (i : Nat) (h : O8 (O8 (O8 (O8 (O8 α))))) : α := g3 i (sel (dig (Nat.div i 512)) (sel (dig (Nat.div i 4096)) h))
noncomputable def p5 (i : Nat) (v : α) (h : O8 (O8 (O8 (O8 (O8 α))))) (k : O8 (O8 (O8 (O8 (O8 α)))) → β) : β :=
  p3 i v (sel (dig (Nat.div i 512)) (sel (dig (Nat.div i 4096)) h)) fun r3 =>
  fo (wr (dig (Nat.div i 512)) (sel (dig (Nat.div i 4096)) h) r3) fun r4 =>
  fo (wr (dig (Nat.div i 4096)) h r4) k
noncomputable def s5 (i : Nat) (v : α) (h : O8 (O8 (O8 (O8 (O8 α))))) : O8 (O8 (O8 (O8 (O8 α)))) :=
  wr (dig (Nat.div i 4096)) h (wr (dig (Nat.div i 512)) (sel (dig (Nat.div i 4096)) h) (s3 i v (sel (dig (Nat.div i 512)) (sel (dig (Nat.div i 4096)) h))))
theorem p5_eq (i : Nat) (v : α) (h : O8 (O8 (O8 (O8 (O8 α))))) (k : O8 (O8 (O8 (O8 (O8 α)))) → β) : p5 i v h k = k (s5 i v h) := by
  unfold p5 s5; rw [p3_eq, fo_eq, fo_eq]
theorem g5_s5 (i : Nat) (v : α) (h : O8 (O8 (O8 (O8 (O8 α))))) : g5 i (s5 i v h) = v := by
  unfold g5 s5; rw [sel_wr, sel_wr, g3_s3]
theorem g3_ne' {t u : Nat} (h : ¬ (u % 8 = t % 8 ∧ u / 8 % 8 = t / 8 % 8 ∧ u / 64 % 8 = t / 64 % 8)) (v : α) (e : O8 (O8 (O8 α))) : g3 u (s3 t v e) = g3 u e := by
  unfold g3 s3
  by_cases h2 : dig (Nat.div u 64) = dig (Nat.div t 64)
  · rw [h2, sel_wr]
    by_cases h1 : dig (Nat.div u 8) = dig (Nat.div t 8)
    · rw [h1, sel_wr]
      exact sel_wr_ne (fun h0 => h ⟨dig_inj h0, dig_inj h1, dig_inj h2⟩) _ _
    · rw [sel_wr_ne h1]
  · rw [sel_wr_ne h2]
theorem g5_ne {t u : Nat} (ht : t < 32768) (hu : u < 32768) (h : u ≠ t) (v : α) (e : O8 (O8 (O8 (O8 (O8 α))))) : g5 u (s5 t v e) = g5 u e := by
  unfold g5 s5
  by_cases h4 : dig (Nat.div u 4096) = dig (Nat.div t 4096)
  · rw [h4, sel_wr]
    by_cases h3 : dig (Nat.div u 512) = dig (Nat.div t 512)
    · rw [h3, sel_wr]
      refine g3_ne' (fun ⟨a, b, c⟩ => h ?_) _ _
      have e3 := dig_inj h3
      have e4 := dig_inj h4
      change (u / 512) % 8 = (t / 512) % 8 at e3
      change (u / 4096) % 8 = (t / 4096) % 8 at e4
      omega
    · rw [sel_wr_ne h3]
  · rw [sel_wr_ne h4]
end

def c8 {α : Type} (v : α) : O8 α := ⟨v, v, v, v, v, v, v, v⟩
theorem sel_c8 {α : Type} (d : D8) (v : α) : sel d (c8 v) = v := by cases d <;> rfl
def e3 : E3 := c8 (c8 (c8 .undef))
def e5 : E5 := c8 (c8 (c8 (c8 (c8 .gone))))
theorem g3_e3 (t : Nat) : g3 t e3 = .undef := by unfold g3 e3; rw [sel_c8, sel_c8, sel_c8]
theorem g5_e5 (t : Nat) : g5 t e5 = .gone := by unfold g5 g3 e5; rw [sel_c8, sel_c8, sel_c8, sel_c8, sel_c8]

/-- a state of the mirror -/
structure YS where
  env : E3
  n : Nat
  ob : E5

noncomputable def envA (e : E3) : Nat → AV := fun t => if t < 512 then g3 t e else .undef
noncomputable def obsA (n : Nat) (h : E5) : List Ob := (List.range n).map fun i => g5 i h
noncomputable def YS.st (s : YS) : St := ⟨envA s.env, obsA s.n s.ob⟩

theorem envA_e3 : envA e3 = fun _ => AV.undef := by
  funext t; unfold envA; rw [g3_e3]; split <;> rfl
theorem envA_s3 {t : Nat} (ht : t < 512) (v : AV) (e : E3) : envA (s3 t v e) = upd (envA e) t v := by
  funext u
  unfold envA upd
  by_cases h : u = t
  · subst h; rw [if_pos ht, if_pos rfl, g3_s3]
  · rw [if_neg h]
    by_cases hu : u < 512
    · show (if u < 512 then _ else _) = (if u < 512 then _ else _)
      rw [if_pos hu, if_pos hu, g3_ne ht hu h]
    · show (if u < 512 then _ else _) = (if u < 512 then _ else _)
      rw [if_neg hu, if_neg hu]

theorem obsA_length (n : Nat) (h : E5) : (obsA n h).length = n := by simp [obsA]
theorem obsA_get {n i : Nat} (h : E5) (hi : i < n) : (obsA n h)[i]? = some (g5 i h) := by
  simp [obsA, hi]
theorem obsA_none {n i : Nat} (h : E5) (hi : n ≤ i) : (obsA n h)[i]? = none := by
  simp [obsA]; omega
theorem obsA_push {n : Nat} (hn : n < 32768) (o : Ob) (h : E5) : obsA (n + 1) (s5 n o h) = obsA n h ++ [o] := by
  unfold obsA
  rw [List.range_succ, List.map_append, List.map_cons, List.map_nil, g5_s5]
  congr 1
  apply List.map_congr_left
  intro i hi
  have hi := List.mem_range.1 hi
  exact g5_ne hn (by omega) (by omega) _ _
theorem obsA_set {n i : Nat} (hn : n ≤ 32768) (hi : i < n) (o : Ob) (h : E5) : obsA n (s5 i o h) = (obsA n h).set i o := by
  apply List.ext_getElem?
  intro j
  by_cases hj : j < n
  · rw [obsA_get _ hj]
    by_cases e : i = j
    · subst e; rw [g5_s5, List.getElem?_set_self (by rw [obsA_length]; exact hj)]
    · rw [List.getElem?_set_ne e, obsA_get _ hj, g5_ne (by omega) (by omega) (Ne.symm e)]
  · rw [obsA_none _ (by omega), List.getElem?_eq_none (by rw [List.length_set, obsA_length]; omega)]

end Go.Am
end
section
/- ELIMINATORS FOR THE KERNEL: the cases that are wanted, and one value for all others -/
namespace Go.Am
/-- a literal -/
noncomputable def litK {R : Type} (v : AV) : ((Value → R) → R → R) :=
  @AV.rec (fun _ => ((Value → R) → R → R)) (fun _ => Unit) (fun _ => Unit) (fun _ d => d) (fun x0 k _ => k x0) (fun _ _ _ _ d => d) (fun _ _ _ d => d) (fun _ _ _ _ _ d => d) (fun _ _ _ _ d => d) (fun _ _ _ d => d) (fun _ _ _ d => d) (fun _ _ _ _ d => d) (fun _ _ _ _ d => d) (fun _ _ _ _ d => d) (fun _ _ d => d) () (fun _ _ _ _ => ()) () (fun _ _ _ _ => ()) v
/-- an address -/
noncomputable def addrK {R : Type} (v : AV) : ((Nat → Nat → Nat → R) → (List AV → R) → R → R) :=
  @AV.rec (fun _ => ((Nat → Nat → Nat → R) → (List AV → R) → R → R)) (fun _ => Unit) (fun _ => Unit) (fun _ _ d => d) (fun _ _ _ d => d) (fun _ _ _ _ _ d => d) (fun x0 _ _ k _ => k x0) (fun _ _ _ _ _ _ d => d) (fun x0 x1 x2 k _ _ => k x0 x1 x2) (fun _ _ _ _ d => d) (fun _ _ _ _ d => d) (fun _ _ _ _ _ d => d) (fun _ _ _ _ _ d => d) (fun _ _ _ _ _ d => d) (fun _ _ _ d => d) () (fun _ _ _ _ => ()) () (fun _ _ _ _ => ()) v
/-- a slice -/
noncomputable def seqK {R : Type} (v : AV) : ((Nat → Nat → Nat → Nat → R) → (Nat → List (List AV) → R) → (Value → R) → R → R) :=
  @AV.rec (fun _ => ((Nat → Nat → Nat → Nat → R) → (Nat → List (List AV) → R) → (Value → R) → R → R)) (fun _ => Unit) (fun _ => Unit) (fun _ _ _ d => d) (fun x0 _ _ k _ => k x0) (fun x0 x1 _ _ k _ _ => k x0 x1) (fun _ _ _ _ _ d => d) (fun x0 x1 x2 x3 k _ _ _ => k x0 x1 x2 x3) (fun _ _ _ _ _ _ d => d) (fun _ _ _ _ _ d => d) (fun _ _ _ _ _ d => d) (fun _ _ _ _ _ _ d => d) (fun _ _ _ _ _ _ d => d) (fun _ _ _ _ _ _ d => d) (fun _ _ _ _ d => d) () (fun _ _ _ _ => ()) () (fun _ _ _ _ => ()) v
/-- what is indexed -/
noncomputable def idxK {R : Type} (v : AV) : ((Nat → Nat → Nat → Nat → R) → (Nat → List (List AV) → R) → (Nat → Nat → Nat → R) → (List AV → R) → R → R) :=
  @AV.rec (fun _ => ((Nat → Nat → Nat → Nat → R) → (Nat → List (List AV) → R) → (Nat → Nat → Nat → R) → (List AV → R) → R → R)) (fun _ => Unit) (fun _ => Unit) (fun _ _ _ _ d => d) (fun _ _ _ _ _ d => d) (fun x0 x1 _ _ k _ _ _ => k x0 x1) (fun x0 _ _ _ _ k _ => k x0) (fun x0 x1 x2 x3 k _ _ _ _ => k x0 x1 x2 x3) (fun x0 x1 x2 _ _ k _ _ => k x0 x1 x2) (fun _ _ _ _ _ _ d => d) (fun _ _ _ _ _ _ d => d) (fun _ _ _ _ _ _ _ d => d) (fun _ _ _ _ _ _ _ d => d) (fun _ _ _ _ _ _ _ d => d) (fun _ _ _ _ _ d => d) () (fun _ _ _ _ => ()) () (fun _ _ _ _ => ()) v
/-- a slice of its own -/
noncomputable def refK {R : Type} (v : AV) : ((Nat → Nat → Nat → Nat → R) → R → R) :=
  @AV.rec (fun _ => ((Nat → Nat → Nat → Nat → R) → R → R)) (fun _ => Unit) (fun _ => Unit) (fun _ d => d) (fun _ _ d => d) (fun _ _ _ _ d => d) (fun _ _ _ d => d) (fun x0 x1 x2 x3 k _ => k x0 x1 x2 x3) (fun _ _ _ _ d => d) (fun _ _ _ d => d) (fun _ _ _ d => d) (fun _ _ _ _ d => d) (fun _ _ _ _ d => d) (fun _ _ _ _ d => d) (fun _ _ d => d) () (fun _ _ _ _ => ()) () (fun _ _ _ _ => ()) v
/-- a struct -/
noncomputable def aggK {R : Type} (v : AV) : ((List AV → R) → R → R) :=
  @AV.rec (fun _ => ((List AV → R) → R → R)) (fun _ => Unit) (fun _ => Unit) (fun _ d => d) (fun _ _ d => d) (fun _ _ _ _ d => d) (fun _ _ _ d => d) (fun _ _ _ _ _ d => d) (fun _ _ _ _ d => d) (fun x0 _ k _ => k x0) (fun _ _ _ d => d) (fun _ _ _ _ d => d) (fun _ _ _ _ d => d) (fun _ _ _ _ d => d) (fun _ _ d => d) () (fun _ _ _ _ => ()) () (fun _ _ _ _ => ()) v
/-- a tuple -/
noncomputable def tupK {R : Type} (v : AV) : ((List AV → R) → R → R) :=
  @AV.rec (fun _ => ((List AV → R) → R → R)) (fun _ => Unit) (fun _ => Unit) (fun _ d => d) (fun _ _ d => d) (fun _ _ _ _ d => d) (fun _ _ _ d => d) (fun _ _ _ _ _ d => d) (fun _ _ _ _ d => d) (fun _ _ _ d => d) (fun x0 _ k _ => k x0) (fun _ _ _ _ d => d) (fun _ _ _ _ d => d) (fun _ _ _ _ d => d) (fun _ _ d => d) () (fun _ _ _ _ => ()) () (fun _ _ _ _ => ()) v
/-- a function -/
noncomputable def fnK {R : Type} (v : AV) : ((FuncId → List AV → R) → (FuncId → List AV → R) → R → R) :=
  @AV.rec (fun _ => ((FuncId → List AV → R) → (FuncId → List AV → R) → R → R)) (fun _ => Unit) (fun _ => Unit) (fun _ _ d => d) (fun _ _ _ d => d) (fun _ _ _ _ _ d => d) (fun _ _ _ _ d => d) (fun _ _ _ _ _ _ d => d) (fun _ _ _ _ _ d => d) (fun _ _ _ _ d => d) (fun _ _ _ _ d => d) (fun x0 x1 _ k _ _ => k x0 x1) (fun x0 x1 _ _ k _ => k x0 x1) (fun _ _ _ _ _ d => d) (fun _ _ _ d => d) () (fun _ _ _ _ => ()) () (fun _ _ _ _ => ()) v
/-- a frozen slice -/
noncomputable def treeK {R : Type} (v : AV) : ((Nat → List (List AV) → R) → R → R) :=
  @AV.rec (fun _ => ((Nat → List (List AV) → R) → R → R)) (fun _ => Unit) (fun _ => Unit) (fun _ d => d) (fun _ _ d => d) (fun x0 x1 _ k _ => k x0 x1) (fun _ _ _ d => d) (fun _ _ _ _ _ d => d) (fun _ _ _ _ d => d) (fun _ _ _ d => d) (fun _ _ _ d => d) (fun _ _ _ _ d => d) (fun _ _ _ _ d => d) (fun _ _ _ _ d => d) (fun _ _ d => d) () (fun _ _ _ _ => ()) () (fun _ _ _ _ => ()) v
/-- a frozen place -/
noncomputable def taddrK {R : Type} (v : AV) : ((List AV → R) → R → R) :=
  @AV.rec (fun _ => ((List AV → R) → R → R)) (fun _ => Unit) (fun _ => Unit) (fun _ d => d) (fun _ _ d => d) (fun _ _ _ _ d => d) (fun x0 _ k _ => k x0) (fun _ _ _ _ _ d => d) (fun _ _ _ _ d => d) (fun _ _ _ d => d) (fun _ _ _ d => d) (fun _ _ _ _ d => d) (fun _ _ _ _ d => d) (fun _ _ _ _ d => d) (fun _ _ d => d) () (fun _ _ _ _ => ()) () (fun _ _ _ _ => ()) v
/-- an interface -/
noncomputable def ifcK {R : Type} (v : AV) : ((TypeId → AV → R) → R → R) :=
  @AV.rec (fun _ => ((TypeId → AV → R) → R → R)) (fun _ => Unit) (fun _ => Unit) (fun _ d => d) (fun _ _ d => d) (fun _ _ _ _ d => d) (fun _ _ _ d => d) (fun _ _ _ _ _ d => d) (fun _ _ _ _ d => d) (fun _ _ _ d => d) (fun _ _ _ d => d) (fun _ _ _ _ d => d) (fun _ _ _ _ d => d) (fun x0 x1 _ k _ => k x0 x1) (fun _ _ d => d) () (fun _ _ _ _ => ()) () (fun _ _ _ _ => ()) v
/-- a map -/
noncomputable def mrefK {R : Type} (v : AV) : ((Nat → R) → R → R) :=
  @AV.rec (fun _ => ((Nat → R) → R → R)) (fun _ => Unit) (fun _ => Unit) (fun _ d => d) (fun _ _ d => d) (fun _ _ _ _ d => d) (fun _ _ _ d => d) (fun _ _ _ _ _ d => d) (fun _ _ _ _ d => d) (fun _ _ _ d => d) (fun _ _ _ d => d) (fun _ _ _ _ d => d) (fun _ _ _ _ d => d) (fun _ _ _ _ d => d) (fun x0 k _ => k x0) () (fun _ _ _ _ => ()) () (fun _ _ _ _ => ()) v
/-- what has a length -/
noncomputable def lenK {R : Type} (v : AV) : ((Nat → Nat → Nat → Nat → R) → (Nat → List (List AV) → R) → (Nat → R) → (Value → R) → R → R) :=
  @AV.rec (fun _ => ((Nat → Nat → Nat → Nat → R) → (Nat → List (List AV) → R) → (Nat → R) → (Value → R) → R → R)) (fun _ => Unit) (fun _ => Unit) (fun _ _ _ _ d => d) (fun x0 _ _ _ k _ => k x0) (fun x0 x1 _ _ k _ _ _ => k x0 x1) (fun _ _ _ _ _ _ d => d) (fun x0 x1 x2 x3 k _ _ _ _ => k x0 x1 x2 x3) (fun _ _ _ _ _ _ _ d => d) (fun _ _ _ _ _ _ d => d) (fun _ _ _ _ _ _ d => d) (fun _ _ _ _ _ _ _ d => d) (fun _ _ _ _ _ _ _ d => d) (fun _ _ _ _ _ _ _ d => d) (fun x0 _ _ k _ _ => k x0) () (fun _ _ _ _ => ()) () (fun _ _ _ _ => ()) v
/-- what is compared -/
noncomputable def binK {R : Type} (v : AV) : ((Value → R) → (Nat → Nat → Nat → R) → (Nat → Nat → Nat → Nat → R) → (List AV → R) → R → R) :=
  @AV.rec (fun _ => ((Value → R) → (Nat → Nat → Nat → R) → (Nat → Nat → Nat → Nat → R) → (List AV → R) → R → R)) (fun _ => Unit) (fun _ => Unit) (fun _ _ _ _ d => d) (fun x0 k _ _ _ _ => k x0) (fun _ _ _ _ _ _ _ d => d) (fun _ _ _ _ _ _ d => d) (fun x0 x1 x2 x3 _ _ k _ _ => k x0 x1 x2 x3) (fun x0 x1 x2 _ k _ _ _ => k x0 x1 x2) (fun x0 _ _ _ _ k _ => k x0) (fun _ _ _ _ _ _ d => d) (fun _ _ _ _ _ _ _ d => d) (fun _ _ _ _ _ _ _ d => d) (fun _ _ _ _ _ _ _ d => d) (fun _ _ _ _ _ d => d) () (fun _ _ _ _ => ()) () (fun _ _ _ _ => ()) v
/-- an integer -/
noncomputable def intK {R : Type} (v : Value) : ((IntKind → Int → R) → R → R) :=
  @Value.rec (fun _ => ((IntKind → Int → R) → R → R)) (fun _ => Unit) (fun _ => Unit) (fun _ _ d => d) (fun x0 x1 k _ => k x0 x1) (fun _ _ _ d => d) (fun _ _ _ _ d => d) (fun _ _ d => d) (fun _ _ d => d) (fun _ _ _ _ d => d) (fun _ _ d => d) (fun _ _ d => d) (fun _ _ _ _ _ _ d => d) (fun _ d => d) (fun _ _ _ _ d => d) (fun _ d => d) (fun _ _ _ d => d) (fun _ _ _ d => d) (fun _ _ => ()) () (fun _ _ _ _ => ()) v
/-- a truth value -/
noncomputable def boolK {R : Type} (v : Value) : ((Bool → R) → R → R) :=
  @Value.rec (fun _ => ((Bool → R) → R → R)) (fun _ => Unit) (fun _ => Unit) (fun x0 k _ => k x0) (fun _ _ _ d => d) (fun _ _ _ d => d) (fun _ _ _ _ d => d) (fun _ _ d => d) (fun _ _ d => d) (fun _ _ _ _ d => d) (fun _ _ d => d) (fun _ _ d => d) (fun _ _ _ _ _ _ d => d) (fun _ d => d) (fun _ _ _ _ d => d) (fun _ d => d) (fun _ _ _ d => d) (fun _ _ _ d => d) (fun _ _ => ()) () (fun _ _ _ _ => ()) v
/-- a string -/
noncomputable def strK {R : Type} (v : Value) : ((ByteArray → R) → R → R) :=
  @Value.rec (fun _ => ((ByteArray → R) → R → R)) (fun _ => Unit) (fun _ => Unit) (fun _ _ d => d) (fun _ _ _ d => d) (fun _ _ _ d => d) (fun _ _ _ _ d => d) (fun x0 k _ => k x0) (fun _ _ d => d) (fun _ _ _ _ d => d) (fun _ _ d => d) (fun _ _ d => d) (fun _ _ _ _ _ _ d => d) (fun _ d => d) (fun _ _ _ _ d => d) (fun _ d => d) (fun _ _ _ d => d) (fun _ _ _ d => d) (fun _ _ => ()) () (fun _ _ _ _ => ()) v
/-- an integer, truth value or string -/
noncomputable def valK {R : Type} (v : Value) : ((IntKind → Int → R) → (Bool → R) → (ByteArray → R) → R → R) :=
  @Value.rec (fun _ => ((IntKind → Int → R) → (Bool → R) → (ByteArray → R) → R → R)) (fun _ => Unit) (fun _ => Unit) (fun x0 _ k _ _ => k x0) (fun x0 x1 k _ _ _ => k x0 x1) (fun _ _ _ _ _ d => d) (fun _ _ _ _ _ _ d => d) (fun x0 _ _ k _ => k x0) (fun _ _ _ _ d => d) (fun _ _ _ _ _ _ d => d) (fun _ _ _ _ d => d) (fun _ _ _ _ d => d) (fun _ _ _ _ _ _ _ _ d => d) (fun _ _ _ d => d) (fun _ _ _ _ _ _ d => d) (fun _ _ _ d => d) (fun _ _ _ _ _ d => d) (fun _ _ _ _ _ d => d) (fun _ _ => ()) () (fun _ _ _ _ => ()) v
theorem litK_eq {R : Type} (v : AV) (k0 : Value → R) (d : R) : litK v k0 d = match v with
  | .lit x0 => k0 x0
  | _ => d := by cases v <;> rfl
theorem addrK_eq {R : Type} (v : AV) (k0 : Nat → Nat → Nat → R) (k1 : List AV → R) (d : R) : addrK v k0 k1 d = match v with
  | .ptr x0 x1 x2 => k0 x0 x1 x2
  | .taddr x0 => k1 x0
  | _ => d := by cases v <;> rfl
theorem seqK_eq {R : Type} (v : AV) (k0 : Nat → Nat → Nat → Nat → R) (k1 : Nat → List (List AV) → R) (k2 : Value → R) (d : R) : seqK v k0 k1 k2 d = match v with
  | .ref x0 x1 x2 x3 => k0 x0 x1 x2 x3
  | .tree x0 x1 => k1 x0 x1
  | .lit x0 => k2 x0
  | _ => d := by cases v <;> rfl
theorem idxK_eq {R : Type} (v : AV) (k0 : Nat → Nat → Nat → Nat → R) (k1 : Nat → List (List AV) → R) (k2 : Nat → Nat → Nat → R) (k3 : List AV → R) (d : R) : idxK v k0 k1 k2 k3 d = match v with
  | .ref x0 x1 x2 x3 => k0 x0 x1 x2 x3
  | .tree x0 x1 => k1 x0 x1
  | .ptr x0 x1 x2 => k2 x0 x1 x2
  | .taddr x0 => k3 x0
  | _ => d := by cases v <;> rfl
theorem refK_eq {R : Type} (v : AV) (k0 : Nat → Nat → Nat → Nat → R) (d : R) : refK v k0 d = match v with
  | .ref x0 x1 x2 x3 => k0 x0 x1 x2 x3
  | _ => d := by cases v <;> rfl
theorem aggK_eq {R : Type} (v : AV) (k0 : List AV → R) (d : R) : aggK v k0 d = match v with
  | .agg x0 => k0 x0
  | _ => d := by cases v <;> rfl
theorem tupK_eq {R : Type} (v : AV) (k0 : List AV → R) (d : R) : tupK v k0 d = match v with
  | .tup x0 => k0 x0
  | _ => d := by cases v <;> rfl
theorem fnK_eq {R : Type} (v : AV) (k0 : FuncId → List AV → R) (k1 : FuncId → List AV → R) (d : R) : fnK v k0 k1 d = match v with
  | .fn x0 x1 => k0 x0 x1
  | .bfn x0 x1 => k1 x0 x1
  | _ => d := by cases v <;> rfl
theorem treeK_eq {R : Type} (v : AV) (k0 : Nat → List (List AV) → R) (d : R) : treeK v k0 d = match v with
  | .tree x0 x1 => k0 x0 x1
  | _ => d := by cases v <;> rfl
theorem taddrK_eq {R : Type} (v : AV) (k0 : List AV → R) (d : R) : taddrK v k0 d = match v with
  | .taddr x0 => k0 x0
  | _ => d := by cases v <;> rfl
theorem ifcK_eq {R : Type} (v : AV) (k0 : TypeId → AV → R) (d : R) : ifcK v k0 d = match v with
  | .ifc x0 x1 => k0 x0 x1
  | _ => d := by cases v <;> rfl
theorem mrefK_eq {R : Type} (v : AV) (k0 : Nat → R) (d : R) : mrefK v k0 d = match v with
  | .mref x0 => k0 x0
  | _ => d := by cases v <;> rfl
theorem lenK_eq {R : Type} (v : AV) (k0 : Nat → Nat → Nat → Nat → R) (k1 : Nat → List (List AV) → R) (k2 : Nat → R) (k3 : Value → R) (d : R) : lenK v k0 k1 k2 k3 d = match v with
  | .ref x0 x1 x2 x3 => k0 x0 x1 x2 x3
  | .tree x0 x1 => k1 x0 x1
  | .mref x0 => k2 x0
  | .lit x0 => k3 x0
  | _ => d := by cases v <;> rfl
theorem binK_eq {R : Type} (v : AV) (k0 : Value → R) (k1 : Nat → Nat → Nat → R) (k2 : Nat → Nat → Nat → Nat → R) (k3 : List AV → R) (d : R) : binK v k0 k1 k2 k3 d = match v with
  | .lit x0 => k0 x0
  | .ptr x0 x1 x2 => k1 x0 x1 x2
  | .ref x0 x1 x2 x3 => k2 x0 x1 x2 x3
  | .agg x0 => k3 x0
  | _ => d := by cases v <;> rfl
theorem intK_eq {R : Type} (v : Value) (k0 : IntKind → Int → R) (d : R) : intK v k0 d = match v with
  | .int x0 x1 => k0 x0 x1
  | _ => d := by cases v <;> rfl
theorem boolK_eq {R : Type} (v : Value) (k0 : Bool → R) (d : R) : boolK v k0 d = match v with
  | .bool x0 => k0 x0
  | _ => d := by cases v <;> rfl
theorem strK_eq {R : Type} (v : Value) (k0 : ByteArray → R) (d : R) : strK v k0 d = match v with
  | .string x0 => k0 x0
  | _ => d := by cases v <;> rfl
theorem valK_eq {R : Type} (v : Value) (k0 : IntKind → Int → R) (k1 : Bool → R) (k2 : ByteArray → R) (d : R) : valK v k0 k1 k2 d = match v with
  | .int x0 x1 => k0 x0 x1
  | .bool x0 => k1 x0
  | .string x0 => k2 x0
  | _ => d := by cases v <;> rfl
end Go.Am
end
section
/- LISTS, OPERANDS AND ROWS FOR THE KERNEL -/
namespace Go.Am
variable {P : Program}

section
variable {α : Type}
noncomputable def nthX (l : List α) : Nat → Option α :=
  @List.rec α (fun _ => Nat → Option α) (fun _ => none) (fun a _ ih i => @Nat.rec (fun _ => Option α) (some a) (fun j _ => ih j) i) l
theorem nthX_eq (l : List α) : ∀ i, nthX l i = l[i]? := by
  induction l with
  | nil => intro i; rfl
  | cons a l ih => intro i; cases i with
    | zero => rfl
    | succ j => exact ih j
noncomputable def dropX (l : List α) : Nat → List α :=
  @List.rec α (fun _ => Nat → List α) (fun _ => []) (fun a t ih i => @Nat.rec (fun _ => List α) (a :: t) (fun j _ => ih j) i) l
theorem dropX_eq (l : List α) : ∀ i, dropX l i = l.drop i := by
  induction l with
  | nil => intro i; simp [dropX]
  | cons a l ih => intro i; cases i with
    | zero => rfl
    | succ j => exact ih j
noncomputable def takeX (l : List α) : Nat → List α :=
  @List.rec α (fun _ => Nat → List α) (fun _ => []) (fun a _ ih i => @Nat.rec (fun _ => List α) [] (fun j _ => a :: ih j) i) l
theorem takeX_eq (l : List α) : ∀ i, takeX l i = l.take i := by
  induction l with
  | nil => intro i; simp [takeX]
  | cons a l ih => intro i; cases i with
    | zero => rfl
    | succ j => exact congrArg (a :: ·) (ih j)
noncomputable def lenX (l : List α) : Nat → Nat := @List.rec α (fun _ => Nat → Nat) (fun n => n) (fun _ _ ih n => ih (Nat.succ n)) l
theorem lenX_eq (l : List α) : ∀ n, lenX l n = l.length + n := by
  induction l with
  | nil => intro n; simp [lenX]
  | cons a l ih => intro n; show lenX l (n + 1) = _; rw [ih]; simp; omega
noncomputable def setX (v : α) (l : List α) : Nat → List α :=
  @List.rec α (fun _ => Nat → List α) (fun _ => []) (fun a t ih i => @Nat.rec (fun _ => List α) (v :: t) (fun j _ => a :: ih j) i) l
theorem setX_eq (v : α) (l : List α) : ∀ i, setX v l i = l.set i v := by
  induction l with
  | nil => intro i; simp [setX]
  | cons a l ih => intro i; cases i with
    | zero => rfl
    | succ j => exact congrArg (a :: ·) (ih j)
/-- the truth values -/
noncomputable def ifX (b : Bool) (x y : α) : α := @Bool.rec (fun _ => α) y x b
theorem ifX_eq (b : Bool) (x y : α) : ifX b x y = if b = true then x else y := by cases b <;> rfl
noncomputable def opt {β : Type} (o : Option α) (k : α → Option β) : Option β := @Option.rec α (fun _ => (α → Option β) → Option β) (fun _ => none) (fun a k => k a) o k
theorem opt_some {β : Type} {o : Option α} {k : α → Option β} {b : β} (h : opt o k = some b) : ∃ a, o = some a ∧ k a = some b := by
  cases o with
  | none => exact absurd h (by intro e; cases e)
  | some a => exact ⟨a, rfl, h⟩
end

/-- what an operation gives: a value, and the objects behind it -/
structure VS where
  v : AV
  n : Nat
  ob : E5

noncomputable def evX (x : Operand) : E3 → AV :=
  @Operand.rec (fun _ => E3 → AV) (fun t e => ifX (Nat.blt t 512) (g3 t e) .undef) (fun v _ => litOf v) (fun g _ => globA g) (fun f _ => .fn f []) x
theorem evX_eq (x : Operand) (e : E3) (os : List Ob) : evX x e = ev ⟨envA e, os⟩ x := by
  cases x with
  | tmp t =>
    show ifX (Nat.blt t 512) (g3 t e) .undef = envA e t
    rw [ifX_eq]; unfold envA
    by_cases h : t < 512
    · rw [if_pos h, if_pos (by simpa [Nat.blt_eq] using h)]
    · rw [if_neg h, if_neg (by simpa [Nat.blt_eq] using h)]
  | const v => rfl
  | global g => rfl
  | func f => rfl

/-- a function's code -/
structure FnX where
  N : Nat
  code : Code
  rs : List ResultVar

/-- the tables of a program -/
structure Env (P : Program) where
  ty : Nat → Ty
  tyOK : ∀ t, ty t = Go.Am.ty P t
  eqt : Nat → Nat → Bool
  eqOK : ∀ t n, eqt t n = true → EqT P t n ∧ P.eqGuardType P.depth t = false
  mix : P.follows .mixedOrders = true
  fn : Nat → Option FnX
  fnOK : ∀ f x, fn f = some x → ∃ fu, P.funcs[f]? = some fu ∧ fu.body = some x.code ∧ (fu.name == "runtime.NumGoroutine") = false ∧ fu.ntmps = x.N ∧ fu.results.toList = x.rs
  nat : Nat → Nat
  natOK1 : ∀ f, nat f = 1 → ∀ (s : ByteArray) (c : Int) (w : World), (callFunc f #[.string s, .int .u8 c]).run P w = .ok (.value (.int .i64 (Lib.indexByte s.data.toList c.toNat.toUInt8))) w
  natOK2 : ∀ f, nat f = 2 → ∀ (s : ByteArray) (c : Int) (w : World), (callFunc f #[.string s, .int .u8 c]).run P w = .ok (.value (.int .i64 (Lib.countByte s.data.toList c.toNat.toUInt8 : Nat))) w

abbrev CallX := Nat → List AV → Nat → E5 → Option VS
abbrev OpF (P : Program) := Env P → CallX → E3 → Nat → E5 → Option VS

/-- the object with a number -/
noncomputable def obX {R : Type} (n : Nat) (h : E5) (id : Nat) (f : List AV → R) (g : Nat → List (List AV) → R) (m : Nat → List (List Int × AV) → R) (d : R) : R :=
  ifX (Nat.blt id n) (@Ob.rec (fun _ => R) d f g m (g5 id h)) d

noncomputable def rowX (n : Nat) (h : E5) (id r : Nat) : Option (List AV) :=
  obX n h id (fun cells => ifX (Nat.beq r 0) (some cells) none) (fun _ rows => nthX rows r) (fun _ _ => none) none

theorem blt_true {a b : Nat} : Nat.blt a b = true ↔ a < b := by simp [Nat.blt_eq]

theorem rowX_eq (e : Nat → AV) (n : Nat) (h : E5) (id r : Nat) : rowX n h id r = rowOf ⟨e, obsA n h⟩ id r := by
  unfold rowX obX rowOf
  rw [ifX_eq]
  by_cases hi : id < n
  · rw [if_pos (blt_true.2 hi)]
    simp only [obsA_get _ hi]
    cases g5 id h with
    | gone => rfl
    | var cells =>
      show ifX (Nat.beq r 0) (some cells) none = _
      rw [ifX_eq]
      by_cases hr : r = 0
      · subst hr; rfl
      · rw [if_neg (by simpa using hr)]; simp [hr]
    | arr sz rows => exact nthX_eq rows r
    | mp ag L => rfl
  · rw [if_neg (fun e => hi (blt_true.1 e))]
    simp only [obsA_none _ (Nat.le_of_not_lt hi)]

end Go.Am
end
section
/- OPERATIONS OF THE MIRROR, first part -/
namespace Go.Am
variable {P : Program}

def SndX (P : Program) (o : Oper) (e : E3) (n : Nat) (h : E5) (r : VS) : Prop :=
  ∀ K : St → Prop, K ((⟨envA e, obsA r.n r.ob⟩ : St).put o.dst r.v) → opW P o ⟨envA e, obsA n h⟩ K

theorem ifX_some {β : Type} {b : Bool} {x y : Option β} {r : β} (h : ifX b x y = some r) : (b = true ∧ x = some r) ∨ (b = false ∧ y = some r) := by
  cases b
  · exact .inr ⟨rfl, h⟩
  · exact .inl ⟨rfl, h⟩

noncomputable def kOK {R : Type} (t : Ty) (x y : R) : R := ifX (Nat.beq t.kind 99) y x
theorem kOK_some {β : Type} {t : Ty} {x : Option β} {r : β} (h : kOK t x none = some r) : t.kind ≠ 99 ∧ x = some r := by
  rcases ifX_some h with ⟨_, h⟩ | ⟨hb, h⟩
  · cases h
  · exact ⟨by intro e; rw [e] at hb; exact absurd hb (by decide), h⟩

/-- a new object -/
noncomputable def pshX (n : Nat) (h : E5) (o : Ob) (v : AV) : Option VS := ifX (Nat.blt n 32768) (p5 n o h fun h' => some ⟨v, n + 1, h'⟩) none
theorem pshX_some {n : Nat} {h : E5} {o : Ob} {v : AV} {r : VS} (hr : pshX n h o v = some r) : r.v = v ∧ r.n = n + 1 ∧ obsA r.n r.ob = obsA n h ++ [o] := by
  rcases ifX_some hr with ⟨hb, h⟩ | ⟨_, h⟩
  · rw [p5_eq] at h
    simp only [Option.some.injEq] at h
    subst h
    exact ⟨rfl, rfl, obsA_push (blt_true.1 hb) _ _⟩
  · cases h

noncomputable def oneX (v : Value) : Bool :=
  @Value.rec (fun _ => Bool) (fun _ => Unit) (fun _ => Unit) (fun _ => true) (fun _ _ => true) (fun _ _ => true) (fun _ _ _ => true) (fun _ => true) (fun _ => true) (fun _ _ _ => true) (fun _ => true) (fun _ => true)
    (fun _ _ _ _ _ => true) true (fun _ _ _ => true) true (fun _ _ => false) (fun _ _ => false) (fun _ _ => ()) () (fun _ _ _ _ => ()) v
theorem oneX_eq (v : Value) : oneX v = v.oneCell' := by cases v <;> rfl
noncomputable def scalX (v : AV) : Bool :=
  @AV.rec (fun _ => Bool) (fun _ => Unit) (fun _ => Unit) false oneX (fun _ _ _ => true) (fun _ _ => true) (fun _ _ _ _ => true) (fun _ _ _ => true) (fun _ _ => false) (fun _ _ => false) (fun _ _ _ => true) (fun _ _ _ => true) (fun _ _ _ => true) (fun _ => true)
    () (fun _ _ _ _ => ()) () (fun _ _ _ _ => ()) v
theorem scalX_eq (v : AV) : scalX v = scal v := by
  cases v <;> first | rfl | exact oneX_eq _
noncomputable def allX (l : List AV) : Bool := @List.rec AV (fun _ => Bool) true (fun v _ ih => ifX (scalX v) ih false) l
theorem allX_eq (l : List AV) : allX l = l.all scal := by
  induction l with
  | nil => rfl
  | cons v l ih =>
    show ifX (scalX v) (allX l) false = _
    rw [ifX_eq, scalX_eq, ih, List.all_cons]
    cases scal v <;> simp
noncomputable def celX (v : AV) : List AV := aggK v (fun cs => cs) [v]
theorem celX_eq (v : AV) : celX v = cellsOf v := by cases v <;> rfl

noncomputable def x_move (x : Operand) : OpF P := fun _ _ e n h => some ⟨evX x e, n, h⟩
noncomputable def x_pick (c a b : Operand) : OpF P := fun _ _ e n h => litK (evX c e) (fun v => boolK v (fun t => some ⟨ifX t (evX a e) (evX b e), n, h⟩) none) none
noncomputable def x_alloc (t : TypeId) : OpF P := fun T _ _ n h => kOK (T.ty t) (opt (T.ty t).zero fun z => pshX n h (.var (z.map .lit)) (.ptr n 0 0)) none
noncomputable def x_box (_ : TypeId) (x : Operand) : OpF P := fun _ _ e n h => ifX (allX (celX (evX x e))) (pshX n h (.var (celX (evX x e))) (.ptr n 0 0)) none
noncomputable def ldX (t : Ty) (cells : List AV) (c : Nat) (n : Nat) (h : E5) : Option VS :=
  kOK t (ifX t.isAgg (ifX (Nat.ble (c + t.size) (lenX cells 0)) (some ⟨.agg (takeX (dropX cells c) t.size), n, h⟩) none) (opt (nthX cells c) fun v => some ⟨v, n, h⟩)) none
noncomputable def x_load (t : TypeId) (a : Operand) : OpF P := fun T _ e n h =>
  addrK (evX a e) (fun id r c => opt (rowX n h id r) fun row => ldX (T.ty t) row c n h) (fun cells => ldX (T.ty t) cells 0 n h) none
noncomputable def livX {R : Type} (n : Nat) (h : E5) (id : Nat) (x y : R) : R := obX n h id (fun _ => x) (fun _ _ => x) (fun _ _ => x) y
noncomputable def x_nilCheck (x : Operand) : OpF P := fun _ _ e n h =>
  addrK (evX x e) (fun id r c => livX n h id (some ⟨.ptr id r c, n, h⟩) none) (fun cells => some ⟨.taddr cells, n, h⟩) none
noncomputable def x_fieldAddr (s : TypeId) (x : Operand) (f : Nat) : OpF P := fun T _ e n h =>
  ifX (Nat.beq (T.ty s).kind 3) (opt (nthX (T.ty s).flds f) fun p => ifX (Nat.blt 0 p.2.2)
    (addrK (evX x e) (fun id r c => livX n h id (some ⟨.ptr id r (c + p.1), n, h⟩) none) (fun cells => some ⟨.taddr (dropX cells p.1), n, h⟩) none) none) none

section
variable {dst : Option Tmp} {tt : TypeId} {p : String} {af : Array Edge} {g : Option (Nat × Bool)} {T : Env P} {call : CallX} {e : E3} {n : Nat} {h : E5} {r : VS}

theorem x_move_ok {x : Operand} (hr : x_move x T call e n h = some r) : SndX P ⟨dst, .move x, tt, p, af, g⟩ e n h r := by
  intro K hK
  simp only [x_move, Option.some.injEq] at hr
  subst hr
  show K _
  rw [← evX_eq]; exact hK
theorem x_assign_ok {x : Operand} (hr : x_move x T call e n h = some r) : SndX P ⟨dst, .assign x, tt, p, af, g⟩ e n h r := by
  intro K hK
  simp only [x_move, Option.some.injEq] at hr
  subst hr
  show K _
  rw [← evX_eq]; exact hK

theorem pickV_eq (t : Bool) (a b : AV) : pickV t a b = ifX t a b := by
  unfold pickV
  split
  · cases t <;> rfl
  · rw [ifX_eq]

theorem x_pick_ok {c a b : Operand} (hr : x_pick c a b T call e n h = some r) : SndX P ⟨dst, .pick c a b, tt, p, af, g⟩ e n h r := by
  intro K hK
  simp only [x_pick] at hr
  have hc := evX_eq c e (obsA n h)
  cases hv : evX c e with
  | lit v =>
    rw [hv] at hr hc
    cases v with
    | bool t =>
      have hr : some (⟨ifX t (evX a e) (evX b e), n, h⟩ : VS) = some r := hr
      simp only [Option.some.injEq] at hr
      subst hr
      unfold opW
      simp only [← hc]
      rw [pickV_eq, ← evX_eq, ← evX_eq]; exact hK
    | _ => exact absurd hr (by intro e; cases e)
  | _ => rw [hv] at hr; exact absurd hr (by intro e; cases e)

theorem x_alloc_ok {t : TypeId} (hr : x_alloc t T call e n h = some r) : SndX P ⟨dst, .alloc t, tt, p, af, g⟩ e n h r := by
  intro K hK
  simp only [x_alloc] at hr
  obtain ⟨hk, hr⟩ := kOK_some hr
  obtain ⟨z, hz, hr⟩ := opt_some hr
  obtain ⟨h1, h2, h3⟩ := pshX_some hr
  rw [T.tyOK] at hk hz
  unfold opW
  simp only [hz]
  refine ⟨hk, ?_⟩
  rw [h3, h1] at hK
  simpa [obsA_length] using hK

theorem x_box_ok {t : TypeId} {x : Operand} (hr : x_box t x T call e n h = some r) : SndX P ⟨dst, .box t x, tt, p, af, g⟩ e n h r := by
  intro K hK
  simp only [x_box] at hr
  rcases ifX_some hr with ⟨hb, hr⟩ | ⟨_, hr⟩
  · obtain ⟨h1, h2, h3⟩ := pshX_some hr
    rw [allX_eq, celX_eq, evX_eq x e (obsA n h)] at hb
    unfold opW
    refine ⟨hb, ?_⟩
    rw [h3, h1, celX_eq, evX_eq x e (obsA n h)] at hK
    simpa [obsA_length] using hK
  · cases hr

theorem ldX_ok {t : TypeId} {cells : List AV} {c : Nat} (hr : ldX (T.ty t) cells c n h = some r) : (ty P t).kind ≠ 99 ∧ r.n = n ∧ r.ob = h ∧ ∀ K : AV → Prop, K r.v → loadA (ty P t) cells c K := by
  unfold ldX at hr
  obtain ⟨hk, hr⟩ := kOK_some hr
  rw [T.tyOK] at hk hr
  refine ⟨hk, ?_⟩
  unfold loadA
  rcases ifX_some hr with ⟨hb, hr⟩ | ⟨hb, hr⟩
  · rcases ifX_some hr with ⟨hc, hr⟩ | ⟨_, hr⟩
    · simp only [Option.some.injEq] at hr
      subst hr
      refine ⟨rfl, rfl, fun K hK => ?_⟩
      rw [if_pos hb]
      rw [lenX_eq] at hc
      refine ⟨by simpa using hc, ?_⟩
      simpa [takeX_eq, dropX_eq] using hK
    · cases hr
  · obtain ⟨v, hv, hr⟩ := opt_some hr
    simp only [Option.some.injEq] at hr
    subst hr
    refine ⟨rfl, rfl, fun K hK => ?_⟩
    rw [if_neg (by rw [hb]; simp)]
    rw [nthX_eq] at hv
    rw [hv]; exact hK

theorem x_load_ok {t : TypeId} {a : Operand} (hr : x_load t a T call e n h = some r) : SndX P ⟨dst, .load t a, tt, p, af, g⟩ e n h r := by
  intro K hK
  simp only [x_load] at hr
  have ha := evX_eq a e (obsA n h)
  cases hv : evX a e with
  | ptr id rr c =>
    rw [hv] at hr ha
    obtain ⟨row, hrow, hr⟩ := opt_some (show opt (rowX n h id rr) (fun row => ldX (T.ty t) row c n h) = some r from hr)
    obtain ⟨hk, h1, h2, h3⟩ := ldX_ok hr
    rw [rowX_eq (envA e)] at hrow
    unfold opW
    simp only [← ha, hrow]
    refine ⟨hk, h3 _ ?_⟩
    rw [h1, h2] at hK; exact hK
  | taddr cells =>
    rw [hv] at hr ha
    obtain ⟨hk, h1, h2, h3⟩ := ldX_ok (show ldX (T.ty t) cells 0 n h = some r from hr)
    unfold opW
    simp only [← ha]
    refine ⟨hk, h3 _ ?_⟩
    rw [h1, h2] at hK; exact hK
  | _ => rw [hv] at hr; exact absurd hr (by intro e; cases e)

theorem livX_some {β : Type} {id : Nat} {x : Option β} {b : β} (hr : livX n h id x none = some b) : x = some b ∧ ∃ o, (obsA n h)[id]? = some o ∧ o ≠ .gone := by
  unfold livX obX at hr
  rcases ifX_some hr with ⟨hb, hr⟩ | ⟨_, hr⟩
  · have hi := blt_true.1 hb
    refine ⟨?_, g5 id h, obsA_get _ hi, ?_⟩
    · cases ho : g5 id h with
      | gone => rw [ho] at hr; exact absurd hr (by intro e; cases e)
      | _ => rw [ho] at hr; exact hr
    · intro e; rw [e] at hr; exact absurd hr (by intro e; cases e)
  · cases hr

theorem x_nilCheck_ok {x : Operand} (hr : x_nilCheck x T call e n h = some r) : SndX P ⟨dst, .nilCheck x, tt, p, af, g⟩ e n h r := by
  intro K hK
  simp only [x_nilCheck] at hr
  have ha := evX_eq x e (obsA n h)
  cases hv : evX x e with
  | ptr id rr c =>
    rw [hv] at hr ha
    obtain ⟨hr, o, ho, hg⟩ := livX_some (show livX n h id (some (⟨.ptr id rr c, n, h⟩ : VS)) none = some r from hr)
    simp only [Option.some.injEq] at hr
    subst hr
    unfold opW
    simp only [← ha, ho]
    cases o <;> first | exact absurd rfl hg | exact hK
  | taddr cells =>
    rw [hv] at hr ha
    have hr : some (⟨.taddr cells, n, h⟩ : VS) = some r := hr
    simp only [Option.some.injEq] at hr
    subst hr
    unfold opW
    simp only [← ha]
    exact hK
  | _ => rw [hv] at hr; exact absurd hr (by intro e; cases e)

theorem x_fieldAddr_ok {s : TypeId} {x : Operand} {f : Nat} (hr : x_fieldAddr s x f T call e n h = some r) : SndX P ⟨dst, .fieldAddr s x f, tt, p, af, g⟩ e n h r := by
  intro K hK
  simp only [x_fieldAddr] at hr
  rcases ifX_some hr with ⟨hb, hr⟩ | ⟨_, hr⟩
  · have hkind : (ty P s).kind = 3 := by rw [T.tyOK] at hb; exact Nat.eq_of_beq_eq_true hb
    obtain ⟨⟨off, ft, size⟩, hf, hr⟩ := opt_some hr
    rw [nthX_eq, T.tyOK] at hf
    rcases ifX_some hr with ⟨hs, hr⟩ | ⟨_, hr⟩
    · have hs : 0 < size := blt_true.1 hs
      have ha := evX_eq x e (obsA n h)
      unfold opW
      simp only [hkind, hf, ← ha]
      refine ⟨hs, ?_⟩
      cases hv : evX x e with
      | ptr id rr c =>
        rw [hv] at hr
        obtain ⟨hr, o, ho, hg⟩ := livX_some (show livX n h id (some (⟨.ptr id rr (c + off), n, h⟩ : VS)) none = some r from hr)
        simp only [Option.some.injEq] at hr
        subst hr
        simp only [ho]
        cases o <;> first | exact absurd rfl hg | exact hK
      | taddr cells =>
        rw [hv] at hr
        have hr : some (⟨.taddr (dropX cells off), n, h⟩ : VS) = some r := hr
        simp only [Option.some.injEq] at hr
        subst hr
        rw [dropX_eq] at hK
        exact hK
      | _ => rw [hv] at hr; exact absurd hr (by intro e; cases e)
    · cases hr
  · cases hr
end
end Go.Am
end
