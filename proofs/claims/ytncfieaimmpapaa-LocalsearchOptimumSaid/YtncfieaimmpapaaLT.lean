import Derived.Test.YtncfieaimmpapaaLS
import Derived.Test.YtncfieaimmpapaaCS3
set_option linter.unusedVariables false
set_option linter.unusedSimpArgs false
open Go Go.Am
namespace T
/-! ### a plan is feasible exactly if it has no breaks, and its total is then the cost of its score -/
theorem sumL_set : ∀ (l : List Int) (i : Nat) (x : Int), i < l.length → sumL (l.set i x) = sumL l - l.getD i 0 + x
  | [], i, x, h => by simp at h
  | y :: r, 0, x, _ => by simp only [List.set_cons_zero, sumL, List.getD_cons_zero]; omega
  | y :: r, i + 1, x, h => by
    have := sumL_set r i x (by simpa using h)
    simp only [List.set_cons_succ, sumL, List.getD_cons_succ]; omega

structure Rel (R : Int) (out : List Int) (s : SC) (n : Nat) : Prop where
  ok : OutOK R out
  b0 : 0 ≤ s.1
  c0 : 0 ≤ s.2 ∧ s.2 ≤ 1048576 * n
  eq : s.1 = 0 → sumL out = s.2
  ff : 0 < s.1 → 1099511627776 ∈ out
theorem Rel.mono {R : Int} {out : List Int} {s : SC} {n k : Nat} (h : Rel R out s n) (hk : n ≤ k) : Rel R out s k :=
  ⟨h.ok, h.b0, by have := h.c0; omega, h.eq, h.ff⟩
/-- one more cost: d is what the rule's sum takes, c and t are what the score takes -/
theorem Rel.add {R : Int} {out : List Int} {s : SC} {n k : Nat} (h : Rel R out s n) {r d c t : Int} (hr : 0 ≤ r ∧ r < R) (ht : 0 ≤ t)
    (hc : (c = 1099511627776 ∧ d = if 0 < t then 1099511627776 else 0) ∨ (c ≠ 1099511627776 ∧ d = c * t ∧ 0 ≤ d ∧ d ≤ 1048576 * k)) (hb : n + k < 1048576) :
    Rel R (addAt out r d) (scAdd s c t) (n + k) := by
  have hin : In41 d := by
    unfold In41
    rcases hc with ⟨_, h⟩ | ⟨_, _, h1, h2⟩
    · rw [h]; split <;> omega
    · omega
  have hlen := h.ok.1
  have hi : r.toNat < out.length := by omega
  have hg := h.ok.get r.toNat
  have hmem := getD_mem (d := (0 : Int)) hi
  have hs := sumL_mem h.ok.2 _ hmem
  have hset := sumL_set out r.toNat (addC (out.getD r.toNat 0) d) hi
  have hc0 := h.c0
  have hb0 := h.b0
  have hself : addC (out.getD r.toNat 0) d ∈ addAt out r d := by
    unfold addAt
    have : (out.set r.toNat (addC (out.getD r.toNat 0) d)).getD r.toNat 0 = addC (out.getD r.toNat 0) d := by
      rw [List.getD_eq_getElem?_getD, List.getElem?_set_self hi]; rfl
    have hm' := getD_mem (l := out.set r.toNat (addC (out.getD r.toNat 0) d)) (i := r.toNat) (d := 0) (by simpa using hi)
    rwa [this] at hm'
  have hstay : 1099511627776 ∈ out → 1099511627776 ∈ addAt out r d := by
    intro hm
    obtain ⟨j, hj, hje⟩ := List.mem_iff_getElem.1 hm
    by_cases hjr : r.toNat = j
    · subst hjr
      have : out.getD r.toNat 0 = 1099511627776 := by rw [List.getD_eq_getElem?_getD, List.getElem?_eq_getElem hj]; exact hje
      rw [this] at hself
      have e : addC 1099511627776 d = 1099511627776 := by unfold In41 at hin; unfold addC; omega
      rwa [e] at hself
    · have : (addAt out r d).getD j 0 = 1099511627776 := by
        unfold addAt
        rw [List.getD_eq_getElem?_getD, List.getElem?_set_ne hjr, List.getElem?_eq_getElem hj]; exact hje
      have hm' := getD_mem (l := addAt out r d) (i := j) (d := 0) (by unfold addAt; simpa using hj)
      rwa [this] at hm'
  unfold In41 at hg hin
  rcases hc with ⟨hcF, hd⟩ | ⟨hcF, hd, hd0, hdk⟩
  · unfold scAdd
    rw [if_pos hcF]
    refine ⟨h.ok.add (by unfold In41; exact hin), by dsimp only; omega, by dsimp only; omega, fun hz => ?_, fun hz => ?_⟩
    · dsimp only at hz ⊢
      have : d = 0 := by rw [hd, if_neg (by omega)]
      rw [← h.eq (by omega)]
      unfold addAt
      rw [hset]
      unfold addC
      omega
    · dsimp only at hz
      by_cases htz : 0 < t
      · have : addC (out.getD r.toNat 0) d = 1099511627776 := by rw [hd, if_pos htz]; unfold addC; omega
        rwa [this] at hself
      · exact hstay (h.ff (by omega))
  · unfold scAdd
    rw [if_neg hcF, ← hd]
    refine ⟨h.ok.add (by unfold In41; exact hin), by dsimp only; omega, by dsimp only; omega, fun hz => ?_, fun hz => ?_⟩
    · dsimp only at hz ⊢
      have he := h.eq hz
      unfold addAt
      rw [hset]
      unfold addC
      omega
    · exact hstay (h.ff hz)
theorem Rel.price {R : Int} {out : List Int} {s : SC} {n : Nat} (h : Rel R out s n) {r c : Int} (hr : 0 ≤ r ∧ r < R) (hc : CostB c) (hb : n + 1 < 1048576) :
    Rel R (addAt out r c) (scAdd s c 1) (n + 1) := by
  refine h.add hr (by omega) ?_ hb
  unfold CostB at hc
  by_cases hF : c = 1099511627776
  · exact .inl ⟨hF, by rw [hF]; rfl⟩
  · exact .inr ⟨hF, by omega, by omega, by omega⟩

theorem rel_ch {R : Int} : ∀ (l : List (Int × Int)) (out : List Int) (s : SC) (n : Nat), (∀ c ∈ l, ruleB R c.1 = true ∧ priceB c.2 = true) → Rel R out s n → n + l.length < 1048576 → Rel R (chargesL l out) (scCh l s) (n + l.length)
  | [], out, s, n, _, h, _ => h
  | c :: r, out, s, n, hc, h, hb => by
    rw [chargesL, scCh]
    rw [List.length_cons] at hb
    have h1 := hc c (by simp)
    have hr := h1.1
    rw [ruleB, decide_eq_true_eq] at hr
    have := rel_ch r _ _ (n + 1) (fun x hx => hc x (by simp [hx])) (h.price hr (price_cb h1.2) (by omega)) (by omega)
    exact this.mono (by rw [List.length_cons]; omega)
theorem rel_plan {m : Mdl} (hm : VM m) : ∀ (plan : List Int) (i : Nat) (out : List Int) (s : SC) (n : Nat), (∀ j, j < plan.length → optB m ((i + j : Nat) : Int) (plan.getD j 0) = true) →
    Rel m.rules out s n → n + 56 * plan.length < 1048576 → Rel m.rules (planC m i plan out) (scPlan m i plan s) (n + 56 * plan.length)
  | [], i, out, s, n, _, h, _ => h
  | o :: r, i, out, s, n, hg, h, hb => by
    rw [planC, scPlan]
    rw [List.length_cons] at hb
    have h0 := hg 0 (by simp)
    rw [List.getD_cons_zero, Nat.add_zero] at h0
    obtain ⟨b1, b2, b3, b4⟩ := optB_iff.1 h0
    rw [Int.toNat_natCast] at b4
    rw [if_neg (by omega)]
    have hl := getD_mem (l := m.cls) (i := i) (d := default) (by omega)
    have ho := getD_mem (l := m.cls.getD i default) (i := o.toNat) (d := default) (by omega)
    have hch := hm.chs _ hl _ ho
    have hlen := chL_len0 hm.rul.1 hch
    have hrul := hm.rul
    have h1 := rel_ch _ out s n (chL_mem hch) h (by omega)
    refine (rel_plan hm r (i + 1) _ _ (n + 56) (fun j hj => ?_) (h1.mono (by omega)) (by omega)).mono (by rw [List.length_cons]; omega)
    have := hg (j + 1) (by simpa using hj)
    rwa [List.getD_cons_succ, show i + (j + 1) = i + 1 + j by omega] at this
theorem rel_prs {m : Mdl} {plan : List Int} (hp : FP m plan) : ∀ (l : List Pr) (out : List Int) (s : SC) (n : Nat), (∀ p ∈ l, pairB m p = true) → Rel m.rules out s n → n + l.length < 1048576 →
    Rel m.rules (pairC m plan l out) (scPrs m plan l s) (n + l.length)
  | [], out, s, n, _, h, _ => h
  | p :: r, out, s, n, hg, h, hb => by
    rw [pairC, scPrs]
    rw [List.length_cons] at hb
    have hpb := hg p (by simp)
    obtain ⟨q1, q2, q3, q4, q5⟩ := pairB_iff hpb
    have hpl := hp.len
    have g1 := hp.get p.fst.toNat (by omega)
    have g2 := hp.get p.snd.toNat (by omega)
    have a1 := optB_iff.1 g1
    have a2 := optB_iff.1 g2
    rw [if_pos ⟨a1.2.2.1, a2.2.2.1⟩]
    exact (rel_prs hp r _ _ (n + 1) (fun x hx => hg x (by simp [hx])) (h.price q1 (entry_cb hpb _ _) (by omega)) (by omega)).mono (by rw [List.length_cons]; omega)
theorem rel_cts {m : Mdl} {plan : List Int} {K : Nat} : ∀ (l : List Ct) (out : List Int) (s : SC) (n : Nat), (∀ c ∈ l, ctB m c = true ∧ c.loads.length ≤ K) → Rel m.rules out s n → n + 1000 * K * l.length < 1048576 →
    Rel m.rules (countC plan l out) (scCts plan l s) (n + 1000 * K * l.length)
  | [], out, s, n, _, h, _ => h
  | c :: r, out, s, n, hg, h, hb => by
    rw [countC, scCts]
    rw [List.length_cons, Nat.mul_add, Nat.mul_one] at hb
    obtain ⟨hc, hK⟩ := hg c (by simp)
    obtain ⟨q1, q2, q3, q4⟩ := ctB_iff hc
    have hrange := loadS_range (m := m) (plan := plan) (fun x hx => (ldL_mem q4 x hx).2) 0
    have hstep : Rel m.rules (addAt out c.rule (excV c.most c.pen (loadS plan c.loads 0))) (scAdd s c.pen (exV plan c)) (n + 1000 * K) := by
      have hpc := price_cb q3
      have hp0 := price_in q3
      unfold exV excV
      generalize loadS plan c.loads 0 = w at *
      unfold CostB at hpc
      unfold In41 at hp0
      refine h.add q1 (by omega) ?_ (by omega)
      by_cases hF : c.pen = 1099511627776
      · refine .inl ⟨hF, ?_⟩
        rw [hF]
        by_cases hw : w ≤ c.most
        · rw [if_pos hw, if_neg (by omega)]
        · rw [if_neg hw, if_pos (by omega)]; omega
      · refine .inr ⟨hF, ?_⟩
        have hc1 := hpc.resolve_right hF
        by_cases hw : w ≤ c.most
        · rw [if_pos hw, show max (w - c.most) 0 = 0 by omega, Int.mul_zero]; omega
        · rw [if_neg hw, show max (w - c.most) 0 = w - c.most by omega]
          have h1 : 0 ≤ (w - c.most) * c.pen := Int.mul_nonneg (by omega) hc1.1
          have h2 : (w - c.most) * c.pen ≤ (1000 * K : Nat) * 1048576 := Int.mul_le_mul (by omega) hc1.2 hc1.1 (by omega)
          rw [Int.mul_comm c.pen]
          omega
    exact (rel_cts r _ _ (n + 1000 * K) (fun x hx => hg x (by simp [hx])) hstep (by omega)).mono (by rw [List.length_cons, Nat.mul_add, Nat.mul_one]; omega)

theorem ldL_lenK {m : Mdl} {K : Nat} (hK : ∀ l ∈ m.cls, l.length ≤ K) : ∀ {l : List Ld} {q : Ld}, ldL m (some q) l = true → 0 ≤ q.cls → 0 ≤ q.opt → q.opt < K → q.cls < m.cls.length → K * q.cls + q.opt + l.length < K * m.cls.length
  | [], q, _, h1, h2, h3, h4 => by
    have : (K : Int) * q.cls + K ≤ K * m.cls.length := by
      rw [show (K : Int) * q.cls + K = K * (q.cls + 1) by rw [Int.mul_add, Int.mul_one]]
      exact Int.mul_le_mul_of_nonneg_left (by omega) (by omega)
    simp; omega
  | x :: r, q, h, h1, h2, h3, h4 => by
    rw [ldL] at h
    simp only [Bool.and_eq_true, decide_eq_true_eq] at h
    obtain ⟨a, b, c, d⟩ := optB_iff.1 h.1.1.1
    have hk := hK _ (getD_mem (l := m.cls) (i := x.cls.toNat) (d := default) (by omega))
    have := ldL_lenK hK h.2 a c (by omega) b
    have hlt := ldOrd_lt.1 h.1.2
    simp only [List.length_cons]
    rcases hlt with hlt | hlt
    · have : (K : Int) * q.cls + K ≤ K * x.cls := by
        rw [show (K : Int) * q.cls + K = K * (q.cls + 1) by rw [Int.mul_add, Int.mul_one]]
        exact Int.mul_le_mul_of_nonneg_left (by omega) (by omega)
      omega
    · rw [hlt.1]; omega
theorem ldL_lenK0 {m : Mdl} {K : Nat} (hK : ∀ l ∈ m.cls, l.length ≤ K) {l : List Ld} (h : ldL m none l = true) : l.length ≤ K * m.cls.length := by
  cases l with
  | nil => simp
  | cons x r =>
    rw [ldL] at h
    simp only [Bool.and_eq_true, decide_eq_true_eq] at h
    obtain ⟨a, b, c, d⟩ := optB_iff.1 h.1.1.1
    have hk := hK _ (getD_mem (l := m.cls) (i := x.cls.toNat) (d := default) (by omega))
    have := ldL_lenK hK h.2 a c (by omega) b
    have hp : 0 ≤ (K : Int) * x.cls := Int.mul_nonneg (by omega) a
    simp only [List.length_cons]
    omega

theorem planL_of {m : Mdl} : ∀ (plan : List Int) (i : Nat), (∀ j, j < plan.length → plan.getD j 0 = -1 ∨ optB m ((i + j : Nat) : Int) (plan.getD j 0) = true) → planL m i plan = true
  | [], _, _ => rfl
  | o :: r, i, h => by
    rw [planL, Bool.and_eq_true, Bool.or_eq_true, decide_eq_true_eq]
    refine ⟨by simpa using h 0 (by simp), planL_of r (i + 1) fun j hj => ?_⟩
    have := h (j + 1) (by simpa using hj)
    rwa [List.getD_cons_succ, show i + (j + 1) = i + 1 + j by omega] at this
theorem pm_planned {m : Mdl} {plan : List Int} (h : PM m plan) : plannedV m plan = true := by
  rw [plannedV, if_neg (by rw [h.len]; simp)]
  exact planL_of plan 0 fun j hj => by rw [Nat.zero_add]; exact h.get j hj
theorem costT_ok {m : Mdl} {plan : List Int} (hm : VM m) (hp : PM m plan) : costT m plan = (totalL (rulesV m plan) 0, rulesV m plan, 0) := by
  rw [costT, if_neg (by rw [valid_iff.2 hm]; simp), if_neg (by rw [pm_planned hp]; simp)]
  rfl
theorem fp_com {m : Mdl} {plan : List Int} (hm : VM m) (hp : FP m plan) : comV m plan = 0 := by
  unfold comV
  rw [if_neg (by rw [valid_iff.2 hm]; simp), pm_planned hp.pm, if_neg]
  simp only [Bool.not_true, Bool.false_or, Bool.not_eq_true]
  cases h : plan.contains (-1) with
  | false => rfl
  | true =>
    obtain ⟨j, hj, e⟩ := List.mem_iff_getElem.1 (List.contains_iff_mem.1 h)
    have := optB_iff.1 (hp.get j hj)
    rw [List.getD_eq_getElem?_getD, List.getElem?_eq_getElem hj] at this
    simp only [Option.getD_some] at this
    omega
theorem pm_fp {m : Mdl} {plan : List Int} (hp : PM m plan) (h0 : ∀ x ∈ plan, 0 ≤ x) : FP m plan :=
  ⟨hp.len, fun j hj => (hp.get j hj).resolve_left fun e => by have := h0 _ (getD_mem (d := 0) hj); omega⟩

/-- the law -/
theorem totals_law {m : Mdl} {plan : List Int} (hm : MM m 5 4) (hp : FP m plan) : 0 ≤ (scV m plan).1 ∧ 0 ≤ (scV m plan).2 ∧ ((scV m plan).1 = 0 ↔ totalL (rulesV m plan) 0 < 1099511627776) ∧ ((scV m plan).1 = 0 → totalL (rulesV m plan) 0 = (scV m plan).2) := by
  have hv := hm.vm
  have hpl := hp.len
  have hfew := hm.few
  have hcts := hm.cts
  have hprs := hv.prs
  have h0 : Rel m.rules (List.replicate m.rules.toNat 0) (0, 0) 0 := by
    refine ⟨OutOK.rep hv.rul.1, by decide, by decide, fun _ => ?_, by intro h; simp at h⟩
    have : ∀ k, sumL (List.replicate k 0) = 0 := by
      intro k
      induction k with
      | zero => rfl
      | succ k ih => rw [List.replicate_succ, sumL, ih]; rfl
    exact this _
  have h1 := rel_plan hv plan 0 _ _ 0 (fun j hj => by rw [Nat.zero_add]; exact hp.get j hj) h0 (by omega)
  have h2 := rel_prs hp m.prs _ _ _ (prsL_mem hv.pr) h1 (by omega)
  have h3 := rel_cts (plan := plan) (K := 20) m.cts _ _ _ (fun c hc => ⟨hv.ct c hc, by
    have := ldL_lenK0 (K := 4) (fun l hl => (hm.some l hl).2) (ctB_iff (hv.ct c hc)).2.2.2
    omega⟩) h2 (by omega)
  have htot := totalL_sum (rulesV_ok hv plan).2 (n := 0) (by unfold In41; decide)
  change Rel m.rules (rulesV m plan) (scV m plan) _ at h3
  have hc0 := h3.c0
  refine ⟨h3.b0, hc0.1, ?_, fun hz => ?_⟩
  · constructor
    · intro hz
      have := h3.eq hz
      omega
    · intro hlt
      have hb := h3.b0
      rcases Int.lt_or_eq_of_le hb with h | h
      · have := sumL_mem (rulesV_ok hv plan).2 _ (h3.ff h)
        omega
      · exact h.symm
  · have := h3.eq hz
    omega
end T

