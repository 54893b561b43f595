import Derived.Test.YtjbfepcaobnbpaaGreatDoorX14
set_option linter.unusedVariables false
set_option linter.unusedSimpArgs false
set_option linter.unnecessarySimpa false
set_option linter.unusedSectionVars false
section
/- REGIONS IN EVERY ORDER: the run in the text's order, and what the other orders see -/
namespace Go.Am
variable {P : Program} {N n0 : Nat}

/-- a run: the states ahead of the operations and behind the last, and the values -/
structure Eg where
  ss : List YS
  vs : List AV

noncomputable def egK {β : Type} (g : Eg) (k : List YS → List AV → β) : β := @Eg.rec (fun _ => β) k g
theorem egK_eq {β : Type} (g : Eg) (k : List YS → List AV → β) : egK g k = k g.ss g.vs := by cases g; rfl
noncomputable def eagX (T : Env P) (call : CallX) (ops : Array Oper) (l : List Oper) : YS → Option Eg :=
  @List.rec Oper (fun _ => YS → Option Eg) (fun s => some ⟨[s], []⟩) (fun o _ ih s => ysK s fun e n h => opt (gopX T call ops o e n h) fun r => vsK r fun v n' h' => putY o.dst v e fun e' => opt (ih ⟨e', n', h'⟩) fun g => egK g fun ss vs => some ⟨⟨e, n, h⟩ :: ss, v :: vs⟩) l

structure EgK (T : Env P) (call : CallX) (ops : Array Oper) (o : Oper) (g : Eg) (k : Nat) (s0 s1 : YS) (v : AV) : Prop where
  a0 : g.ss[k]? = some s0
  a1 : g.ss[k + 1]? = some s1
  av : g.vs[k]? = some v
  run : ∃ r, gopX T call ops o s0.env s0.n s0.ob = some r ∧ r.v = v ∧ s1 = ⟨putE o.dst v s0.env, r.n, r.ob⟩
  lt : ∀ t, o.dst = some t → t < 512

theorem eagX_spec {T : Env P} {call : CallX} {ops : Array Oper} : ∀ {l : List Oper} {s : YS} {g : Eg}, eagX T call ops l s = some g →
    g.ss.length = l.length + 1 ∧ g.ss[0]? = some s ∧ ∀ k o, l[k]? = some o → ∃ s0 s1 v, EgK T call ops o g k s0 s1 v
  | [], s, g, h => by
    have h : some (⟨[s], []⟩ : Eg) = some g := h
    simp only [Option.some.injEq] at h
    subst h
    exact ⟨rfl, rfl, by simp⟩
  | o :: l, s, g, h => by
    have h : (ysK s fun e n h => opt (gopX T call ops o e n h) fun r => vsK r fun v n' h' => putY o.dst v e fun e' => opt (eagX T call ops l ⟨e', n', h'⟩) fun g => egK g fun ss vs => some (⟨⟨e, n, h⟩ :: ss, v :: vs⟩ : Eg)) = some g := h
    rw [ysK_eq] at h
    obtain ⟨r, h1, h⟩ := opt_some h
    rw [vsK_eq] at h
    obtain ⟨h, hlt, _⟩ := putY_some h
    obtain ⟨g1, h2, h⟩ := opt_some h
    rw [egK_eq] at h
    simp only [Option.some.injEq] at h
    subst h
    obtain ⟨i1, i2, i3⟩ := eagX_spec h2
    refine ⟨by simp [i1], rfl, fun k o' hk => ?_⟩
    cases k with
    | zero =>
      simp only [List.getElem?_cons_zero, Option.some.injEq] at hk
      subst hk
      exact ⟨s, _, r.v, rfl, by simpa using i2, rfl, ⟨r, h1, rfl, rfl⟩, hlt⟩
    | succ k =>
      obtain ⟨s0, s1, v, j⟩ := i3 k o' (by simpa using hk)
      exact ⟨s0, s1, v, by simpa using j.a0, by simpa using j.a1, by simpa using j.av, j.run, j.lt⟩

theorem ifX_some' {a b : Bool} (h : ifX a b false = true) : a = true ∧ b = true := by cases a <;> cases b <;> first | exact ⟨rfl, rfl⟩ | exact absurd h (by intro e; cases e)
/-- two values are the same -/
noncomputable def tstX (T : Env P) (call : CallX) (ops : Array Oper) (o : Oper) (e : E3) (v : AV) (s : YS) : Bool :=
  @Option.rec VS (fun _ => Bool) false (fun r => vsK r fun u _ _ => beqAV u v) (gopX T call ops o e s.n s.ob)
theorem tstX_true {T : Env P} {call : CallX} {ops : Array Oper} {o : Oper} {e : E3} {v : AV} {s : YS} (h : tstX T call ops o e v s = true) : ∃ r, gopX T call ops o e s.n s.ob = some r ∧ r.v = v := by
  unfold tstX at h
  cases hr : gopX T call ops o e s.n s.ob with
  | none => rw [hr] at h; exact absurd h (by intro e; cases e)
  | some r => rw [hr] at h; exact ⟨r, rfl, beqAV_eq (by have h : (vsK r fun u _ _ => beqAV u v) = true := h; rw [vsK_eq] at h; exact h)⟩

noncomputable def ss0 (ss : List YS) (x : Nat) : YS := @Option.rec YS (fun _ => YS) ⟨e3, 0, e5⟩ (fun s => s) (nthX ss x)
/-- where else a reader may stand: p: what stands ahead lets it, b: it stands behind that in the text -/
def planK (ms : List Nat) (m k : Nat) : List Nat → Bool → Bool → List Nat
  | [], p, b => if p && !(b && Nat.blt k m) then [m] else []
  | x :: r, p, b => (if p && !(Nat.testBit (ms.getD k 0) x) && !(b && Nat.blt k x) then [x] else []) ++ planK ms m k r (!(Nat.testBit (ms.getD x 0) k)) (Nat.blt x k)
def planL (T : Env P) (ms efs : List Nat) (m : Nat) : List Oper → Nat → List (Nat × Nat)
  | [], _ => []
  | o :: r, k => (if rdB T o.op then (planK ms m k efs true true).map fun x => (k, x) else []) ++ planL T ms efs m r (k + 1)
def planR (T : Env P) (ops : Array Oper) : List (Nat × Nat) := planL T (masks ops) (effs T ops.toList 0) ops.size ops.toList 0

theorem planK_spec {ms : List Nat} {m k : Nat} : ∀ {efs : List Nat} {p b : Bool} (j x : Nat), (efs ++ [m])[j]? = some x → (j = 0 → p = true) → (∀ (i y : Nat), j = i + 1 → efs[i]? = some y → Nat.testBit (ms.getD y 0) k = false) → (∀ (y : Nat), efs[j]? = some y → Nat.testBit (ms.getD k 0) y = false) →
    x ∈ planK ms m k efs p b ∨ (k < x ∧ (j = 0 → b = true) ∧ ∀ (i y : Nat), j = i + 1 → efs[i]? = some y → y < k)
  | [], p, b, j, x, hx, h1, _, _ => by
    cases j with
    | succ j => simp at hx
    | zero =>
      simp only [List.nil_append, List.getElem?_cons_zero, Option.some.injEq] at hx
      subst hx
      simp only [planK, h1 rfl]
      by_cases hb : (b && Nat.blt k m) = true
      · right
        rw [Bool.and_eq_true] at hb
        exact ⟨by simpa using hb.2, fun _ => hb.1, fun i y h => by omega⟩
      · left
        have : (b && Nat.blt k m) = false := Bool.eq_false_iff.2 hb
        simp [this]
  | y :: r, p, b, j, x, hx, h1, h2, h3 => by
    cases j with
    | zero =>
      simp only [List.cons_append, List.getElem?_cons_zero, Option.some.injEq] at hx
      subst hx
      have e1 := h3 y (by simp)
      simp only [planK, h1 rfl, e1]
      by_cases hb : (b && Nat.blt k y) = true
      · right
        rw [Bool.and_eq_true] at hb
        exact ⟨by simpa using hb.2, fun _ => hb.1, fun i z h => by omega⟩
      · left
        have : (b && Nat.blt k y) = false := Bool.eq_false_iff.2 hb
        simp [this]
    | succ j =>
      have := planK_spec (ms := ms) (m := m) (k := k) (efs := r) (p := !(Nat.testBit (ms.getD y 0) k)) (b := Nat.blt y k) j x (by simpa using hx) (fun hj => by
        subst hj
        have := h2 0 y rfl (by simp)
        rw [this]; rfl) (fun i z hi hz => h2 (i + 1) z (by omega) (by simpa using hz)) (fun z hz => h3 z (by simpa using hz))
      rcases this with h | ⟨h4, h5, h6⟩
      · left
        simp only [planK]
        exact List.mem_append_right _ h
      · right
        refine ⟨h4, fun h => by omega, fun i z hi hz => ?_⟩
        cases i with
        | zero =>
          simp only [List.getElem?_cons_zero, Option.some.injEq] at hz
          subst hz
          have : j = 0 := by omega
          simpa using h5 this
        | succ i => exact h6 i z (by omega) (by simpa using hz)

theorem planL_mem {T : Env P} {ms efs : List Nat} {m : Nat} : ∀ {l : List Oper} {k0 : Nat} (j : Nat) (o : Oper), l[j]? = some o → rdB T o.op = true → ∀ x ∈ planK ms m (k0 + j) efs true true, (k0 + j, x) ∈ planL T ms efs m l k0
  | [], _, j, o, h => by simp at h
  | p :: r, k0, j, o, ho => by
    intro hr x hx
    cases j with
    | zero =>
      simp only [List.getElem?_cons_zero, Option.some.injEq] at ho
      subst ho
      simp only [planL, hr, if_true]
      exact List.mem_append_left _ (List.mem_map.2 ⟨x, by simpa using hx, by simp⟩)
    | succ j =>
      have e : k0 + 1 + j = k0 + (j + 1) := by omega
      have := planL_mem (T := T) (ms := ms) (efs := efs) (m := m) (l := r) (k0 := k0 + 1) j o (by simpa using ho) hr x (by rw [e]; exact hx)
      rw [e] at this
      simp only [planL]
      exact List.mem_append_right _ this

/-- the readers at the other objects that they may meet -/
noncomputable def chkP (T : Env P) (call : CallX) (ops : Array Oper) (ss : List YS) (vs : List AV) (l : List (Nat × Nat)) : Bool :=
  @List.rec (Nat × Nat) (fun _ => Bool) true (fun p _ ih => ifX (@Option.rec Oper (fun _ => Bool) false (fun o => @Option.rec AV (fun _ => Bool) false (fun v => tstX T call ops o (ss0 ss p.1).env v (ss0 ss p.2)) (nthX vs p.1)) (nthX ops.toList p.1)) ih false) l
theorem chkP_spec {T : Env P} {call : CallX} {ops : Array Oper} {ss : List YS} {vs : List AV} : ∀ {l : List (Nat × Nat)}, chkP T call ops ss vs l = true → ∀ p ∈ l, ∀ o v, ops.toList[p.1]? = some o → vs[p.1]? = some v → tstX T call ops o (ss0 ss p.1).env v (ss0 ss p.2) = true
  | [], _, p, hp => by simp at hp
  | q :: r, h, p, hp => by
    intro o v ho hv
    rcases ifX_some' (show ifX (@Option.rec Oper (fun _ => Bool) false (fun o => @Option.rec AV (fun _ => Bool) false (fun v => tstX T call ops o (ss0 ss q.1).env v (ss0 ss q.2)) (nthX vs q.1)) (nthX ops.toList q.1)) (chkP T call ops ss vs r) false = true from h) with ⟨h1, h2⟩
    rcases List.mem_cons.1 hp with rfl | hp
    · rw [nthX_eq, nthX_eq, ho, hv] at h1
      exact h1
    · exact chkP_spec h2 p hp o v ho hv

noncomputable def fcY {β : Type} (s : YS) (k : YS → β) : β := @YS.rec (fun _ => β) (fun e n h => k ⟨e, n, h⟩) s
theorem fcY_eq {β : Type} (s : YS) (k : YS → β) : fcY s k = k s := by cases s; rfl
/-- a region in every order -/
noncomputable def drwX (T : Env P) (call : CallX) (ops : Array Oper) (s : YS) : Option YS :=
  gd (statB T ops) (opt (eagX T call ops ops.toList s) fun g => egK g fun ss vs => gd (chkP T call ops ss vs (planR T ops)) (fcY (ss0 ss (lenX ops.toList 0)) some))
end Go.Am
end
section
/- REGIONS IN EVERY ORDER: all of them end alike -/
namespace Go.Am
variable {P : Program} {N n0 : Nat}

def Ls (listed : Array Bool) (k : Nat) : Prop := listed.getD k false = true
theorem Ls.lt {listed : Array Bool} {k : Nat} (h : Ls listed k) : k < listed.size := by
  unfold Ls at h
  rw [Array.getD_eq_getD_getElem?] at h
  cases hx : listed[k]? with
  | none => rw [hx] at h; simp at h
  | some b => exact (Array.getElem?_eq_some_iff.1 hx).1
theorem Ls_not {listed : Array Bool} {k : Nat} (h : listed.getD k true = false) : ¬ Ls listed k := by
  unfold Ls
  rw [Array.getD_eq_getD_getElem?] at h ⊢
  cases hx : listed[k]? with
  | none => rw [hx] at h; simp at h
  | some b => rw [hx] at h; simp at h; simp [h]
theorem not_Ls {listed : Array Bool} {k : Nat} (hk : k < listed.size) (h : ¬ Ls listed k) : listed.getD k true = false := by
  unfold Ls at h
  rw [Array.getD_eq_getD_getElem?] at h ⊢
  rw [Array.getElem?_eq_getElem hk] at h ⊢
  simpa using h
theorem Ls_set {listed : Array Bool} {k i : Nat} (hk : k < listed.size) : Ls (listed.setIfInBounds k true) i ↔ Ls listed i ∨ i = k := by
  unfold Ls
  rw [Array.getD_eq_getD_getElem?, Array.getD_eq_getD_getElem?, Array.getElem?_setIfInBounds]
  by_cases h : k = i
  · subst h; simp [hk]
  · rw [if_neg h]
    have : ¬ i = k := fun e => h e.symm
    simp [this]

theorem Ls_none {n k : Nat} : ¬ Ls (Array.replicate n false) k := by
  unfold Ls
  rw [Array.getD_eq_getD_getElem?, Array.getElem?_replicate]
  split <;> simp

/-- what is known of a region -/
structure DrK (P : Program) (T : Env P) (call : CallX) (ops : Array Oper) (ms : List Nat) (g : Eg) : Prop where
  st : ∀ k o, ops[k]? = some o → StaOK ops ms k o
  ch : ∀ (j a b : Nat), (effs T ops.toList 0)[j]? = some a → (effs T ops.toList 0)[j + 1]? = some b → Nat.testBit (ms.getD b 0) a = true
  eg : ∀ k o, ops[k]? = some o → ∃ s0 s1 v, EgK T call ops o g k s0 s1 v
  ck : ∀ k o v, ops[k]? = some o → rdB T o.op = true → g.vs[k]? = some v → ∀ x ∈ planK ms ops.size k (effs T ops.toList 0) true true, tstX T call ops o (ss0 g.ss k).env v (ss0 g.ss x) = true

section
variable {T : Env P} {call : CallX} {ops : Array Oper} {ms : List Nat} {g : Eg}

theorem ss0_eq {ss : List YS} {x : Nat} {s : YS} (h : ss[x]? = some s) : ss0 ss x = s := by
  unfold ss0; rw [nthX_eq, h]

theorem preds_op {k : Nat} {o : Oper} (D : DrK P T call ops ms g) (ho : ops[k]? = some o) : ∀ i, Nat.testBit (ms.getD k 0) i = true → ∃ d ∈ preds o, i = d ∨ Nat.testBit (ms.getD d 0) i = true := by
  intro i hi
  rw [(D.st k o ho).mq] at hi
  exact orM_bit hi

theorem mask_lt (D : DrK P T call ops ms g) : ∀ (k : Nat) (o : Oper), ops[k]? = some o → ∀ i, Nat.testBit (ms.getD k 0) i = true → i < k := by
  intro k
  induction k using Nat.strongRecOn with
  | _ k ih =>
    intro o ho i hi
    obtain ⟨d, hd, h⟩ := preds_op D ho i hi
    have hlt := (D.st k o ho).lt d hd
    rcases h with rfl | h
    · exact hlt
    · have hk : k < ops.size := (Array.getElem?_eq_some_iff.1 ho).1
      have hd' : d < ops.size := by omega
      exact Nat.lt_trans (ih d hlt ops[d] (by simp [hd']) i h) hlt

theorem list_ops {k : Nat} {o : Oper} : ops.toList[k]? = some o ↔ ops[k]? = some o := by simp

/-- one writer for a slot -/
theorem one_writer (D : DrK P T call ops ms g) {k i : Nat} {o p : Oper} {t : Tmp} (ho : ops[k]? = some o) (hp : ops[i]? = some p) (h1 : o.dst = some t) (h2 : p.dst = some t) : k = i := by
  have a := (D.st k o ho).un t h1
  have b := (D.st i p hp).un t h2
  rw [a] at b
  simpa using b

theorem ss_next (D : DrK P T call ops ms g) {k : Nat} {o : Oper} (ho : ops[k]? = some o) : ∃ v r, g.vs[k]? = some v ∧ gopX T call ops o (ss0 g.ss k).env (ss0 g.ss k).n (ss0 g.ss k).ob = some r ∧ r.v = v ∧
    ss0 g.ss (k + 1) = ⟨putE o.dst v (ss0 g.ss k).env, r.n, r.ob⟩ ∧ ∀ t, o.dst = some t → t < 512 := by
  obtain ⟨s0, s1, v, h⟩ := D.eg k o ho
  obtain ⟨r, h1, h2, h3⟩ := h.run
  exact ⟨v, r, h.av, by rw [ss0_eq h.a0]; exact h1, h2, by rw [ss0_eq h.a1, ss0_eq h.a0]; exact h3, h.lt⟩

theorem envA_putE {d : Option Tmp} {v : AV} {e : E3} (hd : ∀ t, d = some t → t < 512) (t : Nat) : envA (putE d v e) t = if d = some t then v else envA e t := by
  cases d with
  | none => simp [putE]
  | some u =>
    show envA (s3 u v e) t = _
    rw [envA_s3 (hd u rfl)]
    unfold upd
    by_cases h : t = u
    · subst h; simp
    · rw [if_neg h, if_neg (by intro e; simp at e; exact h e.symm)]

/-- the slots along the run -/
theorem run_env (D : DrK P T call ops ms g) : ∀ (k : Nat), k ≤ ops.size → ∀ t,
    (∀ i o v, i < k → ops[i]? = some o → o.dst = some t → g.vs[i]? = some v → envA (ss0 g.ss k).env t = v) ∧
    ((∀ i o, i < k → ops[i]? = some o → o.dst ≠ some t) → envA (ss0 g.ss k).env t = envA (ss0 g.ss 0).env t) := by
  intro k
  induction k with
  | zero => intro _ t; exact ⟨fun i o v h => by omega, fun _ => rfl⟩
  | succ k ih =>
    intro hk t
    obtain ⟨i1, i2⟩ := ih (by omega) t
    have hlt : k < ops.size := by omega
    have ho : ops[k]? = some ops[k] := by simp [hlt]
    obtain ⟨v, r, h1, h2, h3, h4, h5⟩ := ss_next D ho
    rw [h4]
    simp only [envA_putE h5]
    refine ⟨fun i o v' hi hoi hd hv => ?_, fun h => ?_⟩
    · rcases Nat.lt_succ_iff_lt_or_eq.1 hi with hi | rfl
      · have hne : ¬ ops[k].dst = some t := fun e => by
          have := one_writer D ho hoi e hd; omega
        rw [if_neg hne]
        exact i1 i o v' hi hoi hd hv
      · rw [ho] at hoi
        simp only [Option.some.injEq] at hoi
        subst hoi
        rw [if_pos hd]
        rw [h1] at hv
        simpa using hv
    · rw [if_neg (h k _ (Nat.lt_succ_self k) ho)]
      exact i2 fun i o hi => h i o (by omega)

/-- readers leave the objects -/
theorem gop_rd {o : Oper} {e : E3} {n : Nat} {h : E5} {r : VS} (hrd : rdB T o.op = true) (hr : gopX T call ops o e n h = some r) : r.n = n ∧ r.ob = h := by
  unfold gopX at hr
  cases hg : o.guard with
  | none => rw [hg] at hr; exact rd_same hrd hr
  | some jw =>
    rw [hg] at hr
    obtain ⟨d, _, hr⟩ := opt_some (show opt (gslot ops jw.1) _ = some r from hr)
    have sk : skV n h = some r → r.n = n ∧ r.ob = h := fun h => by
      simp only [skV, Option.some.injEq] at h
      subst h; exact ⟨rfl, rfl⟩
    rcases grdV_some hr with ⟨b, _, ⟨_, hr⟩ | ⟨_, hr⟩⟩ | ⟨_, hr⟩
    · exact rd_same hrd hr
    · exact sk hr
    · exact sk hr

theorem run_rd (D : DrK P T call ops ms g) (a b : Nat) (hab : a ≤ b) (hb : b ≤ ops.size) (h : ∀ k o, a ≤ k → k < b → ops[k]? = some o → rdB T o.op = true) : (ss0 g.ss b).n = (ss0 g.ss a).n ∧ (ss0 g.ss b).ob = (ss0 g.ss a).ob := by
  induction b with
  | zero =>
    have : a = 0 := by omega
    subst this; exact ⟨rfl, rfl⟩
  | succ b ih =>
    rcases Nat.eq_or_lt_of_le hab with rfl | hlt
    · exact ⟨rfl, rfl⟩
    · obtain ⟨i1, i2⟩ := ih (by omega) (by omega) fun k o h1 h2 => h k o h1 (by omega)
      have hlt' : b < ops.size := by omega
      have ho : ops[b]? = some ops[b] := by simp [hlt']
      obtain ⟨v, r, h1, h2, h3, h4, h5⟩ := ss_next D ho
      obtain ⟨e1, e2⟩ := gop_rd (h b _ (by omega) (Nat.lt_succ_self b) ho) h2
      rw [h4]
      exact ⟨e1.trans i1, e2.trans i2⟩

/-- between two effects there are readers only -/
theorem effs_gap {T : Env P} : ∀ {l : List Oper} {k0 : Nat} (j x : Nat), (effs T l k0 ++ [k0 + l.length])[j]? = some x →
    (j = 0 → k0 ≤ x ∧ x ≤ k0 + l.length ∧ ∀ k o, k0 ≤ k → k < x → l[k - k0]? = some o → rdB T o.op = true) ∧
    ∀ i y, j = i + 1 → (effs T l k0)[i]? = some y → y + 1 ≤ x ∧ x ≤ k0 + l.length ∧ ∀ k o, y + 1 ≤ k → k < x → l[k - k0]? = some o → rdB T o.op = true
  | [], k0, j, x, h => by
    cases j with
    | succ j => simp [effs] at h
    | zero =>
      simp only [effs, List.length_nil, Nat.add_zero, List.nil_append, List.getElem?_cons_zero, Option.some.injEq] at h
      subst h
      exact ⟨fun _ => ⟨Nat.le_refl _, Nat.le_refl _, fun k o h1 h2 => by omega⟩, fun i y h => by omega⟩
  | p :: r, k0, j, x, h => by
    have hl : k0 + (p :: r).length = (k0 + 1) + r.length := by simp; omega
    rw [hl] at h ⊢
    have idx : ∀ k, k0 < k → (p :: r)[k - k0]? = r[k - (k0 + 1)]? := fun k hk => by
      have : k - k0 = (k - (k0 + 1)) + 1 := by omega
      rw [this, List.getElem?_cons_succ]
    cases hp : rdB T p.op with
    | true =>
      have e1 : effs T (p :: r) k0 = effs T r (k0 + 1) := by rw [effs, hp]; rfl
      rw [e1] at h ⊢
      obtain ⟨g1, g2⟩ := effs_gap j x h
      refine ⟨fun hj => ?_, fun i y hi hy => ?_⟩
      · obtain ⟨a, b, c⟩ := g1 hj
        refine ⟨by omega, b, fun k o h1 h2 ho => ?_⟩
        rcases Nat.eq_or_lt_of_le h1 with rfl | h1
        · simp only [Nat.sub_self, List.getElem?_cons_zero, Option.some.injEq] at ho
          subst ho; exact hp
        · rw [idx k h1] at ho
          exact c k o h1 h2 ho
      · obtain ⟨a, b, c⟩ := g2 i y hi hy
        have hy0 : k0 + 1 ≤ y := by
          have := List.mem_of_getElem? hy
          obtain ⟨_, h, _⟩ := (effs_mem (T := T)).1 this
          exact h
        refine ⟨a, b, fun k o h1 h2 ho => ?_⟩
        rw [idx k (by omega)] at ho
        exact c k o h1 h2 ho
    | false =>
      have e1 : effs T (p :: r) k0 = k0 :: effs T r (k0 + 1) := by rw [effs, hp]; rfl
      rw [e1] at h ⊢
      cases j with
      | zero =>
        simp only [List.cons_append, List.getElem?_cons_zero, Option.some.injEq] at h
        subst h
        exact ⟨fun _ => ⟨Nat.le_refl _, by omega, fun k o h1 h2 => by omega⟩, fun i y h => by omega⟩
      | succ j =>
        obtain ⟨g1, g2⟩ := effs_gap j x (by simpa using h)
        refine ⟨fun h => by omega, fun i y hi hy => ?_⟩
        have hij : i = j := by omega
        subst hij
        cases i with
        | zero =>
          simp only [List.getElem?_cons_zero, Option.some.injEq] at hy
          subst hy
          obtain ⟨a, b, c⟩ := g1 rfl
          refine ⟨a, b, fun k o h1 h2 ho => ?_⟩
          rw [idx k (by omega)] at ho
          exact c k o h1 h2 ho
        | succ i =>
          simp only [List.getElem?_cons_succ] at hy
          obtain ⟨a, b, c⟩ := g2 i y rfl hy
          have hy0 : k0 + 1 ≤ y := by
            have := List.mem_of_getElem? hy
            obtain ⟨_, h, _⟩ := (effs_mem (T := T)).1 this
            exact h
          refine ⟨a, b, fun k o h1 h2 ho => ?_⟩
          rw [idx k (by omega)] at ho
          exact c k o h1 h2 ho

/-- where one stands: slots and objects behind some of the operations -/
structure Mid (T : Env P) (ops : Array Oper) (ms : List Nat) (g : Eg) (listed : Array Bool) (e : E3) (j : Nat) : Prop where
  sz : listed.size = ops.size
  cl : ∀ k, Ls listed k → ∀ i, Nat.testBit (ms.getD k 0) i = true → Ls listed i
  jl : j ≤ (effs T ops.toList 0).length
  ef : ∀ i x, (effs T ops.toList 0)[i]? = some x → (Ls listed x ↔ i < j)
  wr : ∀ k o t v, ops[k]? = some o → o.dst = some t → Ls listed k → g.vs[k]? = some v → envA e t = v
  un : ∀ t, (∀ k o, ops[k]? = some o → o.dst = some t → ¬ Ls listed k) → envA e t = envA (ss0 g.ss 0).env t

theorem any_ok (hc : CallOK P call) (D : DrK P T call ops ms g) (hdst : ∀ o ∈ ops.toList, ∀ d, o.dst = some d → d < N) {os : List Ob} {γ0 : Cx} {Q : Exit → Act → World → Prop}
    (hQ : ∀ a' w', Okay N os γ0 (ss0 g.ss ops.size).st a' w' → Q .normal a' w') :
    ∀ (fuel : Nat) (rem : List Nat) (listed : Array Bool) (e : E3) (j x : Nat) (a : Act) (w : World), rem.length ≤ fuel → (∀ k, k < ops.size → ¬ Ls listed k → k ∈ rem) → Mid T ops ms g listed e j →
      (effs T ops.toList 0 ++ [ops.size])[j]? = some x → Okay N os γ0 ⟨envA e, obsA (ss0 g.ss x).n (ss0 g.ss x).ob⟩ a w → wpAny P .any ops Q fuel listed a w := by
  -- when nothing is ready all is done
  have fin : ∀ (listed : Array Bool) (e : E3) (j x : Nat) (a : Act) (w : World), Mid T ops ms g listed e j → (effs T ops.toList 0 ++ [ops.size])[j]? = some x → Okay N os γ0 ⟨envA e, obsA (ss0 g.ss x).n (ss0 g.ss x).ob⟩ a w →
      Region.ready .any ops listed = [] → Q .normal a w := by
    intro listed e j x a w M hx hok hr
    have all : ∀ k, k < ops.size → Ls listed k := by
      intro k
      induction k using Nat.strongRecOn with
      | _ k ih =>
        intro hk
        refine Classical.byContradiction fun hn => ?_
        have ho : ops[k]? = some ops[k] := by simp [hk]
        have : k ∈ Region.ready .any ops listed := mem_ready.2 ⟨not_Ls (by rw [M.sz]; exact hk) hn, ops[k], ho, fun ed he hb => by
          have hlt := (D.st k _ ho).lt ed.on (mem_preds.2 ⟨ed, he, hb, rfl⟩)
          exact ih ed.on hlt (by omega)⟩
        rw [hr] at this
        simp at this
    have hj : j = (effs T ops.toList 0).length := by
      rcases Nat.eq_or_lt_of_le M.jl with h | h
      · exact h
      · have hy : (effs T ops.toList 0)[j]? = some (effs T ops.toList 0)[j] := by simp [h]
        have hmem := List.mem_of_getElem? hy
        obtain ⟨o, _, ho, _⟩ := (effs_mem (T := T)).1 hmem
        have hlt := (List.getElem?_eq_some_iff.1 ho).1
        have := (M.ef j _ hy).1 (all _ (by simpa using hlt))
        omega
    rw [hj] at hx
    rw [List.getElem?_append_right (Nat.le_refl _)] at hx
    simp only [Nat.sub_self, List.getElem?_cons_zero, Option.some.injEq] at hx
    subst hx
    refine hQ a w ?_
    have he : envA e = envA (ss0 g.ss ops.size).env := by
      funext t
      obtain ⟨r1, r2⟩ := run_env D ops.size (Nat.le_refl _) t
      by_cases hw : ∃ (k : Nat) (o : Oper), ops[k]? = some o ∧ o.dst = some t
      · obtain ⟨k, o, ho, hd⟩ := hw
        have hk : k < ops.size := (Array.getElem?_eq_some_iff.1 ho).1
        obtain ⟨v, _, hv, _⟩ := ss_next D ho
        rw [M.wr k o t v ho hd (all k hk) hv, r1 k o v hk ho hd hv]
      · rw [M.un t (fun k o ho hd => absurd ⟨k, o, ho, hd⟩ hw), r2 (fun i o _ ho hd => hw ⟨i, o, ho, hd⟩)]
    have : (ss0 g.ss ops.size).st = ⟨envA e, obsA (ss0 g.ss ops.size).n (ss0 g.ss ops.size).ob⟩ := by unfold YS.st; rw [he]
    rw [this]; exact hok
  intro fuel
  induction fuel with
  | zero =>
    intro rem listed e j x a w hrem hall M hx hok
    have hrd : Region.ready .any ops listed = [] := by
      cases hr : Region.ready .any ops listed with
      | nil => rfl
      | cons k r =>
        have hk : k ∈ Region.ready .any ops listed := by rw [hr]; simp
        obtain ⟨h1, o, ho, _⟩ := mem_ready.1 hk
        have := hall k (Array.getElem?_eq_some_iff.1 ho).1 (Ls_not h1)
        have : rem = [] := List.eq_nil_of_length_eq_zero (by omega)
        subst this
        simp at *
    exact ⟨hrd, fin listed e j x a w M hx hok hrd⟩
  | succ fuel ih =>
    intro rem listed e j x a w hrem hall M hx hok
    refine ⟨fun hr => fin listed e j x a w M hx hok hr, fun k hk => ?_⟩
    obtain ⟨hkl, o, ho, hdep⟩ := mem_ready.1 hk
    have hkn := Ls_not hkl
    have hks : k < ops.size := (Array.getElem?_eq_some_iff.1 ho).1
    have hkz : k < listed.size := by rw [M.sz]; exact hks
    -- what k hangs on is done
    have hcl : ∀ i, Nat.testBit (ms.getD k 0) i = true → Ls listed i := by
      intro i hi
      obtain ⟨d, hd, h⟩ := preds_op D ho i hi
      obtain ⟨ed, he, hb, rfl⟩ := mem_preds.1 hd
      have hld : Ls listed ed.on := hdep ed he hb
      rcases h with rfl | h
      · exact hld
      · exact M.cl _ hld i h
    -- the slots that k looks at
    have hlook : ∀ t ∈ o.looksAt ops, envA e t = envA (ss0 g.ss k).env t := by
      intro t ht
      obtain ⟨r1, r2⟩ := run_env D k (by omega) t
      cases hf : fnd t ops.toList 0 with
      | none =>
        have hno : ∀ (i : Nat) (p : Oper), ops[i]? = some p → p.dst ≠ some t := fun i p hp => fnd_none hf p (List.mem_of_getElem? (list_ops.2 hp))
        rw [M.un t (fun i p hp hd => absurd hd (hno i p hp)), r2 (fun i p _ hp => hno i p hp)]
      | some i =>
        obtain ⟨_, p, hp, hd⟩ := fnd_some hf
        have hp : ops[i]? = some p := by simpa using hp
        rcases (D.st k o ho).lk t ht i hf with hb | hb
        · have hli := hcl i hb
          have hik := mask_lt D k o ho i hb
          obtain ⟨v, _, hv, _⟩ := ss_next D hp
          rw [M.wr i p t v hp hd hli hv, r1 i p v hik hp hd hv]
        · have hki := mask_lt D i p hp k hb
          rw [M.un t (fun j q hq hdq hj => by
            have : i = j := one_writer D hp hq hd hdq
            subst this
            exact hkn (M.cl i hj k hb)), r2 (fun j q hj hq hdq => by
            have : i = j := one_writer D hp hq hd hdq
            omega)]
    obtain ⟨v, r, hv, hrun, hrv, hnext, hlt⟩ := ss_next D ho
    have hmid : ∀ j', (∀ i y, (effs T ops.toList 0)[i]? = some y → ((Ls listed y ∨ y = k) ↔ i < j')) → j' ≤ (effs T ops.toList 0).length → Mid T ops ms g (listed.setIfInBounds k true) (putE o.dst v e) j' := by
      intro j' hj' hl'
      refine ⟨by rw [Array.size_setIfInBounds]; exact M.sz, fun i hi z hz => ?_, hl', fun i y hy => ?_, fun i p t u hp hd hi hu => ?_, fun t ht => ?_⟩
      · rw [Ls_set hkz] at hi ⊢
        rcases hi with hi | rfl
        · exact .inl (M.cl i hi z hz)
        · exact .inl (hcl z hz)
      · rw [Ls_set hkz]; exact hj' i y hy
      · rw [envA_putE hlt]
        rw [Ls_set hkz] at hi
        by_cases hk' : o.dst = some t
        · have : k = i := one_writer D ho hp hk' hd
          subst this
          rw [if_pos hk']
          rw [hv] at hu
          simpa using hu
        · rw [if_neg hk']
          rcases hi with hi | rfl
          · exact M.wr i p t u hp hd hi hu
          · rw [ho] at hp
            simp only [Option.some.injEq] at hp
            subst hp
            exact absurd hd hk'
      · rw [envA_putE hlt, if_neg (fun hd => ht k o ho hd ((Ls_set hkz).2 (.inr rfl)))]
        exact M.un t fun i p hp hd hi => ht i p hp hd ((Ls_set hkz).2 (.inl hi))
    have hrem' : (rem.erase k).length ≤ fuel := by
      have := List.length_erase_of_mem (hall k hks hkn)
      have hpos : 0 < rem.length := List.length_pos_of_mem (hall k hks hkn)
      omega
    have hall' : ∀ i, i < ops.size → ¬ Ls (listed.setIfInBounds k true) i → i ∈ rem.erase k := by
      intro i hi hn
      rw [Ls_set hkz] at hn
      have h1 : ¬ Ls listed i := fun h => hn (.inl h)
      have h2 : i ≠ k := fun h => hn (.inr h)
      exact (List.mem_erase_of_ne h2).2 (hall i hi h1)
    have hst : ∀ (os' : List Ob) (u : AV), (⟨envA e, os'⟩ : St).put o.dst u = ⟨envA (putE o.dst u e), os'⟩ := by
      intro os' u
      cases hd : o.dst with
      | none => rfl
      | some t =>
        show (⟨upd (envA e) t u, os'⟩ : St) = ⟨envA (s3 t u e), os'⟩
        rw [envA_s3 (hlt t hd)]
    cases hrd : rdB T o.op with
    | false =>
      -- an effect
      have hmem : k ∈ effs T ops.toList 0 := (effs_mem (T := T)).2 ⟨o, Nat.zero_le _, by simpa using ho, hrd⟩
      have hpos : ∀ (i : Nat), (effs T ops.toList 0)[i]? = some k → i = j := by
        intro i hi
        have h1 : ¬ i < j := fun h => hkn ((M.ef i k hi).2 h)
        cases i with
        | zero => omega
        | succ i =>
          have hl : i < (effs T ops.toList 0).length := by
            have := (List.getElem?_eq_some_iff.1 hi).1; omega
          have hy : (effs T ops.toList 0)[i]? = some (effs T ops.toList 0)[i] := by simp [hl]
          have := (M.ef i _ hy).1 (hcl _ (D.ch i _ k hy hi))
          omega
      obtain ⟨i, hi⟩ := List.getElem?_of_mem hmem
      obtain rfl := hpos i hi
      have hil := (List.getElem?_eq_some_iff.1 hi).1
      have hxk : x = k := by
        rw [List.getElem?_append_left hil, hi] at hx
        simpa using hx.symm
      subst hxk
      obtain ⟨y, hy⟩ : ∃ y, (effs T ops.toList 0 ++ [ops.size])[i + 1]? = some y := by
        have : i + 1 < (effs T ops.toList 0 ++ [ops.size]).length := by simp; omega
        exact ⟨_, List.getElem?_eq_getElem this⟩
      have hgap := (effs_gap (T := T) (l := ops.toList) (k0 := 0) (i + 1) y (by simpa using hy)).2 i x rfl hi
      obtain ⟨g1, g2, g3⟩ := hgap
      have hobj := run_rd D (x + 1) y g1 (by simpa using g2) (fun q p h1 h2 hp => g3 q p h1 h2 (by simpa using hp))
      have hrun' : gopX T call ops o e (ss0 g.ss x).n (ss0 g.ss x).ob = some r := by
        rw [gopX_congr hlook]; exact hrun
      refine gstep_wpOp hdst ho (gopX_ok hc hrun') hok fun a' w' hok' => ?_
      refine ih (rem.erase x) _ (putE o.dst v e) (i + 1) y a' w' hrem' hall' (hmid (i + 1) (fun i' z hz => ?_) (by omega)) hy ?_
      · rw [M.ef i' z hz]
        constructor
        · rintro (h | rfl)
          · omega
          · have := hpos i' hz; omega
        · intro h
          rcases Nat.lt_succ_iff_lt_or_eq.1 h with h | rfl
          · exact .inl h
          · right
            rw [hi] at hz
            simpa using hz.symm
      · rw [hobj.1, hobj.2, hnext]
        rw [hst, hrv] at hok'
        exact hok'
    | true =>
      have hnot : ∀ (i : Nat), (effs T ops.toList 0)[i]? ≠ some k := by
        intro i hi
        obtain ⟨p, _, hp, hp2⟩ := (effs_mem (T := T)).1 (List.mem_of_getElem? hi)
        have hp : ops[k]? = some p := by simpa using hp
        rw [ho] at hp
        simp only [Option.some.injEq] at hp
        subst hp
        rw [hrd] at hp2
        cases hp2
      have hpl := planK_spec (ms := ms) (m := ops.size) (k := k) (efs := effs T ops.toList 0) (p := true) (b := true) j x hx (fun _ => rfl)
        (fun i y hj hy => by
          cases hb : Nat.testBit (ms.getD y 0) k with
          | false => rfl
          | true => exact absurd (M.cl y ((M.ef i y hy).2 (by omega)) k hb) hkn)
        (fun y hy => by
          cases hb : Nat.testBit (ms.getD k 0) y with
          | false => rfl
          | true => have := (M.ef j y hy).1 (hcl y hb); omega)
      obtain ⟨r', h1, h2, e1, e2⟩ : ∃ r', gopX T call ops o (ss0 g.ss k).env (ss0 g.ss x).n (ss0 g.ss x).ob = some r' ∧ r'.v = v ∧ r'.n = (ss0 g.ss x).n ∧ r'.ob = (ss0 g.ss x).ob := by
        rcases hpl with hpl | ⟨p1, p2, p3⟩
        · obtain ⟨r', h1, h2⟩ := tstX_true (D.ck k o v ho hrd hv x hpl)
          obtain ⟨e1, e2⟩ := gop_rd hrd h1
          exact ⟨r', h1, h2, e1, e2⟩
        · have hgap := effs_gap (T := T) (l := ops.toList) (k0 := 0) j x (by simpa using hx)
          have hxs : x ≤ ops.size := by
            cases j with
            | zero => have := (hgap.1 rfl).2.1; simpa using this
            | succ i =>
              have hi : i < (effs T ops.toList 0).length := by
                have := M.jl; omega
              have := (hgap.2 i (effs T ops.toList 0)[i] rfl (by simp [hi])).2.1
              simpa using this
          have hobj := run_rd D k x (by omega) hxs (fun q p h1 h2 hp => by
            cases j with
            | zero => exact (hgap.1 rfl).2.2 q p (Nat.zero_le _) h2 (by simpa using hp)
            | succ i =>
              have hi : i < (effs T ops.toList 0).length := by
                have := M.jl; omega
              have hy : (effs T ops.toList 0)[i]? = some (effs T ops.toList 0)[i] := by simp [hi]
              have hlt := p3 i _ rfl hy
              exact (hgap.2 i _ rfl hy).2.2 q p (by omega) h2 (by simpa using hp))
          obtain ⟨e1, e2⟩ := gop_rd hrd hrun
          rw [hobj.1, hobj.2]
          exact ⟨r, hrun, hrv, e1, e2⟩
      have hrun' : gopX T call ops o e (ss0 g.ss x).n (ss0 g.ss x).ob = some r' := by
        rw [gopX_congr hlook]; exact h1
      refine gstep_wpOp hdst ho (gopX_ok hc hrun') hok fun a' w' hok' => ?_
      refine ih (rem.erase k) _ (putE o.dst v e) j x a' w' hrem' hall' (hmid j (fun i' z hz => ?_) M.jl) hx ?_
      · rw [M.ef i' z hz]
        constructor
        · rintro (h | rfl)
          · exact h
          · exact absurd hz (hnot i')
        · exact fun h => .inl h
      · rw [hst, h2, e1, e2] at hok'
        exact hok'
end

theorem W_drwX {T : Env P} {call : CallX} (hm : P.follows .mixedOrders = true) (hc : CallOK P call) {id : Nat} {ops : Array Oper} {s s' : YS} {Q : Exit → St → Prop} (hd : dstOK N ops = true) (h : drwX T call ops s = some s') (hq : Q .normal s'.st) :
    W P N n0 (.region id ops true) Q s.st := by
  unfold drwX at h
  obtain ⟨h1, h⟩ := gd_some h
  obtain ⟨g, h2, h⟩ := opt_some h
  rw [egK_eq] at h
  obtain ⟨h3, h⟩ := gd_some h
  rw [fcY_eq, lenX_eq] at h
  simp only [Nat.add_zero, Array.length_toList, Option.some.injEq] at h
  subst h
  unfold statB statM at h1
  rw [Bool.and_eq_true] at h1
  obtain ⟨i1, i2, i3⟩ := eagX_spec h2
  have D : DrK P T call ops (masks ops) g := ⟨fun k o ho => by simpa using staK_spec h1.1 k o (by simpa using ho), chainB_spec h1.2, fun k o ho => i3 k o (by simpa using ho),
    fun k o v ho hr hv x hx => chkP_spec h3 (k, x) (by have := planL_mem (T := T) (ms := masks ops) (efs := effs T ops.toList 0) (m := ops.size) (l := ops.toList) (k0 := 0) k o (by simpa using ho) hr x (by simpa using hx); simpa [planR] using this) o v (by simpa using ho) hv⟩
  intro os γ0 a w _ hok
  refine wp_region_any hm ?_
  obtain ⟨x, hx⟩ : ∃ x, (effs T ops.toList 0 ++ [ops.size])[0]? = some x := by
    have : 0 < (effs T ops.toList 0 ++ [ops.size]).length := by simp
    exact ⟨_, List.getElem?_eq_getElem this⟩
  have hgap := (effs_gap (T := T) (l := ops.toList) (k0 := 0) 0 x (by simpa using hx)).1 rfl
  obtain ⟨_, g2, g3⟩ := hgap
  have hobj := run_rd D 0 x (Nat.zero_le _) (by simpa using g2) (fun q p h1 h2 hp => g3 q p h1 h2 (by simpa using hp))
  have hs : ss0 g.ss 0 = s := ss0_eq i2
  refine any_ok hc D (dstOK_spec hd) (Q := fun e a' w' => ∃ σ', Q e σ' ∧ Okay N os γ0 σ' a' w') (fun a' w' hok' => ⟨_, hq, hok'⟩) ops.size (List.range ops.size) _ s.env 0 x a _ (by simp) (fun k hk _ => by simpa using hk) ?_ hx ?_
  · exact ⟨by simp, fun k hk => absurd hk Ls_none, Nat.zero_le _, fun i y hy => ⟨fun hk => absurd hk Ls_none, fun h => by omega⟩, fun k o t v _ _ hk => absurd hk Ls_none, fun t _ => by rw [hs]⟩
  · rw [hobj.1, hobj.2, hs]
    exact hok.drawn
end Go.Am
end
