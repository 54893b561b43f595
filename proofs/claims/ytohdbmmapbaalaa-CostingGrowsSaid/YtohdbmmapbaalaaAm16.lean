import Derived.Test.YtohdbmmapbaalaaAm15
namespace Go.Am
variable {P : Program}

/-- a call that touches nothing of the activation's own -/
def callQ (P : Program) (g : FuncId) (args : List AV) (dst : Option Tmp) (K : St → Prop) (σ : St) : Prop :=
  ∃ res, Holds P g args [] res [] ∧ noRefL args = true ∧ noRef res = true ∧ K (σ.put dst res)

/-- an operation; with q it is such a call -/
def opGm (q : Bool) (P : Program) (o : Oper) (σ : St) (K : St → Prop) : Prop :=
  match q with
  | false => opG P o σ K
  | true =>
    match o.op with
    | .call { callee := .value f, args, .. } =>
      match ev σ f with
      | .fn g caps => callQ P g (args.toList.map (ev σ) ++ caps) o.dst K σ
      | _ => False
    | _ => False

def guardM (q : Bool) (P : Program) (o : Oper) (K : St → Prop) (b want : Bool) (σ : St) : Prop := (b = want → opGm q P o σ K) ∧ (b ≠ want → K (σ.put o.dst (.lit (.tuple #[]))))

/-- one operation of a region -/
def stepD (P : Program) (ops : Array Oper) (q : Bool) (o : Oper) (K : St → Prop) (σ : St) : Prop :=
  match o.guard with
  | none => opGm q P o σ K
  | some (j, want) =>
    match (ops[j]?).bind (·.dst) with
    | none => False
    | some d =>
      match σ.env d with
      | .lit (.bool b) => guardM q P o K b want σ
      | .lit (.tuple vs) => vs = #[] ∧ K (σ.put o.dst (.lit (.tuple #[])))
      | _ => False

theorem opGm_opG {q : Bool} {o : Oper} {σ : St} {K : St → Prop} (h : opGm q P o σ K) : opG P o σ K := by
  cases q with
  | false => exact h
  | true =>
    unfold opGm at h
    simp only at h
    unfold opG
    split at h
    · rename_i f args ats hop
      simp only [hop]
      split at h
      · rename_i g caps he
        simp only [he]
        obtain ⟨res, h1, h2, h3, h4⟩ := h
        exact callK_pure h1 h2 h3 h4
      · exact h.elim
    · exact h.elim

theorem stepD_sound {N : Nat} {os : List Ob} {γ0 : Cx} {ops : Array Oper} (hd : ∀ o ∈ ops.toList, ∀ d, o.dst = some d → d < N) {q : Bool} {i : Nat} {o : Oper} (hi : ops[i]? = some o) {σ : St} {K : St → Prop}
    (h : stepD P ops q o K σ) {a : Act} {w : World} (hok : Okay N os γ0 σ a w) {Q : Exit → Act → World → Prop} {next : Act → World → Prop} (hn : ∀ σ' a' w', K σ' → Okay N os γ0 σ' a' w' → next a' w') : wpOp P ops Q i next a w := by
  have hmem : o ∈ ops.toList := List.mem_of_getElem? (by simpa using hi)
  unfold wpOp
  simp only [hi]
  unfold stepD at h
  cases hg : o.guard with
  | none =>
    simp only [hg] at h
    have hw : Region.wanted o (yielded ops a.tmps) = true := by simp [Region.wanted, hg]
    rw [if_pos hw]
    left
    exact opG_sound (opGm_opG h) hok (hd o hmem) hn
  | some jw =>
    obtain ⟨j, want⟩ := jw
    simp only [hg] at h
    cases hdj : (ops[j]?).bind (·.dst) with
    | none => simp [hdj] at h
    | some d =>
      simp only [hdj] at h
      split at h
      · rename_i b he
        obtain ⟨hdf, hsz, γ, rfl, ha, hs, hf⟩ := hok
        have hslot := hs.slots d
        rw [he, ha] at hslot
        have hv := hslot.lit_inv
        have hy : yielded ops a.tmps j = some b := by
          unfold yielded
          rw [hdj]
          have : a.tmps[d]? = some (.bool b) := by
            rw [Array.getD_eq_getD_getElem?] at hv
            cases hx : a.tmps[d]? with
            | none => rw [hx] at hv; simp [Go.undef] at hv
            | some y => rw [hx] at hv; simp at hv; rw [hv]
          simp [this]
        by_cases hbw : b = want
        · have hw : Region.wanted o (yielded ops a.tmps) = true := by simp [Region.wanted, hg, hy, hbw]
          rw [if_pos hw]
          left
          exact opG_sound (opGm_opG (h.1 hbw)) ⟨hdf, hsz, γ, rfl, ha, hs, hf⟩ (hd o hmem) hn
        · have hw : Region.wanted o (yielded ops a.tmps) = false := by simp [Region.wanted, hg, hy, hbw]
          rw [if_neg (by rw [hw]; simp)]
          refine hn _ _ _ (h.2 hbw) ⟨by rw [put_defers]; exact hdf, by rw [put_size]; exact hsz, { γ with tmps := (a.put o.dst Go.undef).tmps }, rfl, rfl, put_sim hs ha (fun d h => by rw [hsz]; exact hd o hmem d h) (.lit _), ?_⟩
          rw [objs_put]; exact hf.put _
      · rename_i vs he
        obtain ⟨hdf, hsz, γ, rfl, ha, hs, hf⟩ := hok
        have hslot := hs.slots d
        rw [he, ha] at hslot
        have hv := hslot.lit_inv
        have hy : yielded ops a.tmps j = none := by
          unfold yielded
          rw [hdj]
          rw [Array.getD_eq_getD_getElem?] at hv
          cases hx : a.tmps[d]? with
          | none => simp [hx]
          | some y => rw [hx] at hv; simp at hv; subst hv; simp [hx]
        have hw : Region.wanted o (yielded ops a.tmps) = false := by simp [Region.wanted, hg, hy]
        rw [if_neg (by rw [hw]; simp)]
        refine hn _ _ _ h.2 ⟨by rw [put_defers]; exact hdf, by rw [put_size]; exact hsz, { γ with tmps := (a.put o.dst Go.undef).tmps }, rfl, rfl, put_sim hs ha (fun d h => by rw [hsz]; exact hd o hmem d h) (.lit _), ?_⟩
        rw [objs_put]; exact hf.put _
      · exact h.elim

/-! ### what a step hangs on -/

theorem eff_refl (c : Nat) (a : List Ob) : Eff c a a := by
  unfold Eff
  split
  · rfl
  · split
    · intro id _; rfl
    · split
      · exact ⟨rfl, fun id o o' h h' => by rw [h] at h'; simp at h'; subst h'; exact sameK_refl o⟩
      · trivial

theorem Frz.objs {σ σ2 : St} (h : σ2.objs = σ.objs) {kp : Nat → Prop} {c d : AV} (ha : Frz σ kp c d) : Frz σ2 kp c d := by
  induction ha with
  | lit x => exact .lit x
  | tree s r => exact .tree s r
  | nil sz => exact .nil sz
  | ref id sz off len rows rows' g hob hsel hl0 hw0 hg1 hg2 ih => exact .ref id sz off len rows rows' g (by rw [h]; exact hob) hsel hl0 hw0 hg1 ih

theorem ArgR.objs {σ σ2 : St} (h : σ2.objs = σ.objs) {kp : Nat → Prop} {ρ : Nat → Nat} {snap : Bool} {c d : AV} (ha : ArgR σ kp ρ snap c d) : ArgR σ2 kp ρ snap c d := by
  induction ha with
  | same v => exact .same v
  | snap c d hs hf => exact .snap c d hs (hf.objs h)
  | agg cs ds hl _ ih => exact .agg cs ds hl ih
  | tup cs ds hl _ ih => exact .tup cs ds hl ih

/-- the class of a step -/
def clsQ (q : Bool) (o : Oper) : Nat := if q then 0 else cls o.op

theorem ev_looks {ops : Array Oper} {o : Oper} {σ : St} {e2 : Nat → AV} {os : List Ob} (h : ∀ t ∈ o.looksAt ops, e2 t = σ.env t) : ∀ x ∈ o.op.operands.toList, ev ⟨e2, os⟩ x = ev σ x := by
  intro x hx
  cases x with
  | tmp t =>
    show e2 t = σ.env t
    refine h t ?_
    unfold Oper.looksAt
    rw [List.mem_append]
    left
    rw [List.mem_filterMap]
    exact ⟨_, hx, rfl⟩
  | const v => rfl
  | func f => rfl
  | global g => rfl

theorem opG_local {o : Oper} {σ : St} {K : St → Prop} (hW : opG P o σ K) :
    ∃ v os, Eff (cls o.op) σ.objs os ∧ K ((⟨σ.env, os⟩ : St).put o.dst v) ∧ ∀ (e2 : Nat → AV) (K2 : St → Prop), (∀ x ∈ o.op.operands.toList, ev ⟨e2, σ.objs⟩ x = ev σ x) → K2 ((⟨e2, os⟩ : St).put o.dst v) → opG P o ⟨e2, σ.objs⟩ K2 := by
  unfold opG at hW ⊢
  split at hW
  · rename_i f args ats hop
    simp only [hop]
    split at hW
    · rename_i g caps he
      obtain ⟨sel, snap, cargs, cobjs, res, cobjs', h1, ⟨h2, h3, h4, h5, h6, h7⟩, h8⟩ := hW
      refine ⟨_, _, (by simp [Eff, cls]), h8, fun e2 K2 hx hK => ?_⟩
      have e1 : ev ⟨e2, σ.objs⟩ f = .fn g caps := by rw [← he]; exact hx f (by simp [Op.operands, Call.operands])
      have e3 : args.toList.map (ev ⟨e2, σ.objs⟩) = args.toList.map (ev σ) := List.map_congr_left fun y hy => hx y (by simp only [Op.operands, Call.operands, Array.toList_append, List.mem_append]; exact .inr hy)
      simp only [e1, e3]
      exact ⟨sel, snap, cargs, cobjs, res, cobjs', h1, ⟨h2, h3, h4, h5, fun j c d hc hd => ArgR.objs (σ := σ) (σ2 := ⟨e2, σ.objs⟩) rfl (h6 j c d hc hd), h7⟩, hK⟩
    · exact hW.elim
  · rename_i hne
    obtain ⟨v, os, h1, h2, h3⟩ := opW_local hW
    refine ⟨v, os, h1, h2, fun e2 K2 hx hK => ?_⟩
    have := h3 e2 K2 hx hK
    exact this

theorem opG_value {o : Oper} {σ : St} {K : St → Prop} (hc : cls o.op ≤ 2) (hW : opG P o σ K) :
    ∃ v, K (σ.put o.dst v) ∧ ∀ (σ2 : St) (K2 : St → Prop), (∀ x ∈ o.op.operands.toList, ev σ2 x = ev σ x) → (∀ (id : Nat), ObjC (cls o.op) σ.objs[id]? σ2.objs[id]?) → K2 (σ2.put o.dst v) → opG P o σ2 K2 := by
  unfold opG at hW ⊢
  split at hW
  · rename_i f args ats hop
    rw [hop] at hc
    simp [cls] at hc
  · rename_i hne
    obtain ⟨v, h2, h3⟩ := opW_value hc hW
    refine ⟨v, h2, fun σ2 K2 hx ho hK => ?_⟩
    exact h3 σ2 K2 hx (fun x _ id _ => ho id) hK

theorem opGm_local {q : Bool} {o : Oper} {σ : St} {K : St → Prop} (hW : opGm q P o σ K) :
    ∃ v os, Eff (clsQ q o) σ.objs os ∧ K ((⟨σ.env, os⟩ : St).put o.dst v) ∧ ∀ (e2 : Nat → AV) (K2 : St → Prop), (∀ x ∈ o.op.operands.toList, ev ⟨e2, σ.objs⟩ x = ev σ x) → K2 ((⟨e2, os⟩ : St).put o.dst v) → opGm q P o ⟨e2, σ.objs⟩ K2 := by
  cases q with
  | false => exact opG_local hW
  | true =>
    unfold opGm at hW ⊢
    simp only at hW ⊢
    split at hW
    · rename_i f args ats hop
      simp only [hop]
      split at hW
      · rename_i g caps he
        obtain ⟨res, h1, h2, h3, h4⟩ := hW
        refine ⟨res, σ.objs, eff_refl _ _, h4, fun e2 K2 hx hK => ?_⟩
        have e1 : ev ⟨e2, σ.objs⟩ f = .fn g caps := by rw [← he]; exact hx f (by simp [Op.operands, Call.operands])
        have e3 : args.toList.map (ev ⟨e2, σ.objs⟩) = args.toList.map (ev σ) := List.map_congr_left fun y hy => hx y (by simp only [Op.operands, Call.operands, Array.toList_append, List.mem_append]; exact .inr hy)
        simp only [e1, e3]
        exact ⟨res, h1, h2, h3, hK⟩
      · exact hW.elim
    · exact hW.elim

theorem opGm_value {q : Bool} {o : Oper} {σ : St} {K : St → Prop} (hc : clsQ q o ≤ 2) (hW : opGm q P o σ K) :
    ∃ v, K (σ.put o.dst v) ∧ ∀ (σ2 : St) (K2 : St → Prop), (∀ x ∈ o.op.operands.toList, ev σ2 x = ev σ x) → (∀ (id : Nat), ObjC (clsQ q o) σ.objs[id]? σ2.objs[id]?) → K2 (σ2.put o.dst v) → opGm q P o σ2 K2 := by
  cases q with
  | false => exact opG_value hc hW
  | true =>
    unfold opGm at hW ⊢
    simp only at hW ⊢
    split at hW
    · rename_i f args ats hop
      simp only [hop]
      split at hW
      · rename_i g caps he
        obtain ⟨res, h1, h2, h3, h4⟩ := hW
        refine ⟨res, h4, fun σ2 K2 hx _ hK => ?_⟩
        have e1 : ev σ2 f = .fn g caps := by rw [← he]; exact hx f (by simp [Op.operands, Call.operands])
        have e3 : args.toList.map (ev σ2) = args.toList.map (ev σ) := List.map_congr_left fun y hy => hx y (by simp only [Op.operands, Call.operands, Array.toList_append, List.mem_append]; exact .inr hy)
        simp only [e1, e3]
        exact ⟨res, h1, h2, h3, hK⟩
      · exact hW.elim
    · exact hW.elim

theorem guard_looks {ops : Array Oper} {o : Oper} {j d : Nat} {want : Bool} (hg : o.guard = some (j, want)) (hd : (ops[j]?).bind (·.dst) = some d) : d ∈ o.looksAt ops := by
  unfold Oper.looksAt
  rw [List.mem_append]
  right
  simp [hg, hd]

theorem stepD_local {ops : Array Oper} {q : Bool} {o : Oper} {σ : St} {K : St → Prop} (hW : stepD P ops q o K σ) :
    ∃ v os, Eff (clsQ q o) σ.objs os ∧ K ((⟨σ.env, os⟩ : St).put o.dst v) ∧ ∀ (e2 : Nat → AV) (K2 : St → Prop), (∀ t ∈ o.looksAt ops, e2 t = σ.env t) → K2 ((⟨e2, os⟩ : St).put o.dst v) → stepD P ops q o K2 ⟨e2, σ.objs⟩ := by
  unfold stepD at hW ⊢
  cases hg : o.guard with
  | none =>
    simp only [hg] at hW
    obtain ⟨v, os, h1, h2, h3⟩ := opGm_local hW
    exact ⟨v, os, h1, h2, fun e2 K2 hl hK => h3 e2 K2 (ev_looks hl) hK⟩
  | some jw =>
    obtain ⟨j, want⟩ := jw
    simp only [hg] at hW
    cases hdj : (ops[j]?).bind (·.dst) with
    | none => simp [hdj] at hW
    | some d =>
      simp only [hdj] at hW
      split at hW
      · rename_i b he
        by_cases hbw : b = want
        · obtain ⟨v, os, h1, h2, h3⟩ := opGm_local (hW.1 hbw)
          refine ⟨v, os, h1, h2, fun e2 K2 hl hK => ?_⟩
          have : e2 d = .lit (.bool b) := by rw [hl d (guard_looks hg hdj)]; exact he
          simp only [hdj, this]
          exact ⟨fun _ => h3 e2 K2 (ev_looks hl) hK, fun hn => absurd hbw hn⟩
        · refine ⟨.lit (.tuple #[]), σ.objs, eff_refl _ _, hW.2 hbw, fun e2 K2 hl hK => ?_⟩
          have : e2 d = .lit (.bool b) := by rw [hl d (guard_looks hg hdj)]; exact he
          simp only [hdj, this]
          exact ⟨fun hn => absurd hn hbw, fun _ => hK⟩
      · rename_i vs he
        refine ⟨.lit (.tuple #[]), σ.objs, eff_refl _ _, hW.2, fun e2 K2 hl hK => ?_⟩
        have : e2 d = .lit (.tuple vs) := by rw [hl d (guard_looks hg hdj)]; exact he
        simp only [hdj, this]
        exact ⟨hW.1, hK⟩
      · exact hW.elim

theorem stepD_value {ops : Array Oper} {q : Bool} {o : Oper} {σ : St} {K : St → Prop} (hc : clsQ q o ≤ 2) (hW : stepD P ops q o K σ) :
    ∃ v, K (σ.put o.dst v) ∧ ∀ (σ2 : St) (K2 : St → Prop), (∀ t ∈ o.looksAt ops, σ2.env t = σ.env t) → (∀ (id : Nat), ObjC (clsQ q o) σ.objs[id]? σ2.objs[id]?) → K2 (σ2.put o.dst v) → stepD P ops q o K2 σ2 := by
  unfold stepD at hW ⊢
  cases hg : o.guard with
  | none =>
    simp only [hg] at hW
    obtain ⟨v, h2, h3⟩ := opGm_value hc hW
    exact ⟨v, h2, fun σ2 K2 hl ho hK => h3 σ2 K2 (ev_looks (e2 := σ2.env) (os := σ2.objs) hl) ho hK⟩
  | some jw =>
    obtain ⟨j, want⟩ := jw
    simp only [hg] at hW
    cases hdj : (ops[j]?).bind (·.dst) with
    | none => simp [hdj] at hW
    | some d =>
      simp only [hdj] at hW
      split at hW
      · rename_i b he
        by_cases hbw : b = want
        · obtain ⟨v, h2, h3⟩ := opGm_value hc (hW.1 hbw)
          refine ⟨v, h2, fun σ2 K2 hl ho hK => ?_⟩
          have : σ2.env d = .lit (.bool b) := by rw [hl d (guard_looks hg hdj)]; exact he
          simp only [hdj, this]
          exact ⟨fun _ => h3 σ2 K2 (ev_looks (e2 := σ2.env) (os := σ2.objs) hl) ho hK, fun hn => absurd hbw hn⟩
        · refine ⟨.lit (.tuple #[]), hW.2 hbw, fun σ2 K2 hl ho hK => ?_⟩
          have : σ2.env d = .lit (.bool b) := by rw [hl d (guard_looks hg hdj)]; exact he
          simp only [hdj, this]
          exact ⟨fun hn => absurd hn hbw, fun _ => hK⟩
      · rename_i vs he
        refine ⟨.lit (.tuple #[]), hW.2, fun σ2 K2 hl ho hK => ?_⟩
        have : σ2.env d = .lit (.tuple vs) := by rw [hl d (guard_looks hg hdj)]; exact he
        simp only [hdj, this]
        exact ⟨hW.1, hK⟩
      · exact hW.elim

/-! ### two steps change places -/

theorem put_env_ne {σ : St} {dst : Option Tmp} {v : AV} {t : Nat} (h : ∀ d, dst = some d → d ≠ t) : (σ.put dst v).env t = σ.env t := by
  cases dst with
  | none => rfl
  | some d =>
    have := h d rfl
    simp [St.put, upd, Ne.symm this]

theorem put_comm' {σ : St} {x y : Option Tmp} {v u : AV} (h : ∀ d, x = some d → y ≠ some d) : (σ.put x v).put y u = (σ.put y u).put x v := by
  cases x with
  | none => rfl
  | some d =>
    cases y with
    | none => rfl
    | some d' =>
      have hne : d' ≠ d := fun e => h d rfl (by rw [e])
      simp only [St.put]
      congr 1
      funext k
      simp only [upd]
      split <;> split <;> simp_all

theorem put_objs {σ : St} {x : Option Tmp} {v : AV} : (σ.put x v).objs = σ.objs := by cases x <;> rfl
theorem put_eta {σ : St} {x : Option Tmp} {v : AV} : σ.put x v = ⟨(σ.put x v).env, σ.objs⟩ := by cases x <;> rfl

theorem put_over {σ : St} {os : List Ob} {x : Option Tmp} {v : AV} : (⟨(σ.put x v).env, os⟩ : St) = (⟨σ.env, os⟩ : St).put x v := by cases x <;> rfl

def compat (ci ck : Nat) : Bool := ci == 0 || ck == 0 || (ci == 1 && decide (ck ≤ 4)) || (ci == 2 && decide (ck ≤ 3))

theorem eff_objC {ci ck : Nat} (h : (ci == 0 || (ci == 1 && decide (ck ≤ 4)) || (ci == 2 && decide (ck ≤ 3))) = true) {a b : List Ob} (he : Eff ck a b) (id : Nat) : ObjC ci a[id]? b[id]? := by
  simp only [Bool.or_eq_true, Bool.and_eq_true, beq_iff_eq, decide_eq_true_eq] at h
  rcases h with (rfl | ⟨rfl, hk⟩) | ⟨rfl, hk⟩
  · simp [ObjC]
  · unfold Eff at he
    have : ∀ o, a[id]? = some o → ∃ o', b[id]? = some o' ∧ sameK o o' := by
      intro o ho
      have hlt := (List.getElem?_eq_some_iff.1 ho).1
      split at he
      · subst he; exact ⟨o, ho, sameK_refl o⟩
      · split at he
        · exact ⟨o, by rw [he id hlt]; exact ho, sameK_refl o⟩
        · split at he
          · have hb : id < b.length := by omega
            exact ⟨b[id], by simp [hb], he.2 id o _ ho (by simp [hb])⟩
          · omega
    simpa [ObjC] using this
  · unfold Eff at he
    have : ∀ o, a[id]? = some o → b[id]? = some o := by
      intro o ho
      have hlt := (List.getElem?_eq_some_iff.1 ho).1
      split at he
      · subst he; exact ho
      · split at he
        · rw [he id hlt]; exact ho
        · omega
    simpa [ObjC] using this

theorem swap_value {ops : Array Oper} {qi qk : Bool} {oi ok : Oper} (ha : oi.apart ops ok = true) (hi : clsQ qi oi ≤ 2)
    (hc : (clsQ qi oi == 0 || (clsQ qi oi == 1 && decide (clsQ qk ok ≤ 4)) || (clsQ qi oi == 2 && decide (clsQ qk ok ≤ 3))) = true) {σ : St} {K : St → Prop}
    (h : stepD P ops qi oi (stepD P ops qk ok K) σ) : stepD P ops qk ok (stepD P ops qi oi K) σ := by
  obtain ⟨a1, a2, a3⟩ := Oper.apart_spec ha
  obtain ⟨v, h1, run⟩ := stepD_value hi h
  obtain ⟨vk, os, heff, h2, run2⟩ := stepD_local h1
  rw [put_objs] at heff run2
  refine run2 σ.env _ (fun t ht => (put_env_ne fun d hd e => a1 d hd (e ▸ ht)).symm) ?_
  refine run _ _ (fun t ht => ?_) (fun id => ?_) ?_
  · rw [put_env_ne fun d hd e => a3 d hd (e ▸ ht)]
  · rw [put_objs]; exact eff_objC hc heff id
  · rw [put_over] at h2
    rw [put_comm' (fun d hd e => a2 d e hd)]
    exact h2

theorem swap_quiet {ops : Array Oper} {qi qk : Bool} {oi ok : Oper} (ha : oi.apart ops ok = true) (hk : clsQ qk ok = 0) {σ : St} {K : St → Prop}
    (h : stepD P ops qi oi (stepD P ops qk ok K) σ) : stepD P ops qk ok (stepD P ops qi oi K) σ := by
  obtain ⟨a1, a2, a3⟩ := Oper.apart_spec ha
  obtain ⟨vi, os, heff, h1, run⟩ := stepD_local h
  obtain ⟨vk, h2, runk⟩ := stepD_value (by omega) h1
  refine runk σ _ (fun t ht => (put_env_ne (σ := ⟨σ.env, os⟩) fun d hd e => a1 d hd (e ▸ ht)).symm) (fun id => by rw [hk]; simp [ObjC]) ?_
  rw [put_eta]
  refine run _ _ (fun t ht => put_env_ne fun d hd e => a3 d hd (e ▸ ht)) ?_
  rw [put_over, put_comm' (fun d hd e => a2 d e hd)]
  exact h2

theorem swap_steps {ops : Array Oper} {qi qk : Bool} {oi ok : Oper} (ha : oi.apart ops ok = true) (hc : compat (clsQ qi oi) (clsQ qk ok) = true) {σ : St} {K : St → Prop}
    (h : stepD P ops qi oi (stepD P ops qk ok K) σ) : stepD P ops qk ok (stepD P ops qi oi K) σ := by
  by_cases hk : clsQ qk ok = 0
  · exact swap_quiet ha hk h
  · have hc' : (clsQ qi oi == 0 || (clsQ qi oi == 1 && decide (clsQ qk ok ≤ 4)) || (clsQ qi oi == 2 && decide (clsQ qk ok ≤ 3))) = true := by
      simp only [compat, Bool.or_eq_true, Bool.and_eq_true, beq_iff_eq, decide_eq_true_eq] at hc ⊢
      rcases hc with ((h | h) | h) | h
      · exact .inl (.inl h)
      · exact absurd h hk
      · exact .inl (.inr h)
      · exact .inr h
    refine swap_value ha ?_ hc' h
    simp only [Bool.or_eq_true, Bool.and_eq_true, beq_iff_eq, decide_eq_true_eq] at hc'
    omega

end Go.Am
