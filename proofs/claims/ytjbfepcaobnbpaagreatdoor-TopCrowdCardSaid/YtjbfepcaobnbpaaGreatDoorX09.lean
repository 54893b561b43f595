import Derived.Test.YtjbfepcaobnbpaaGreatDoorX08
set_option linter.unusedVariables false
set_option linter.unusedSimpArgs false
set_option linter.unnecessarySimpa false
set_option linter.unusedSectionVars false
section
/- OPERATIONS OF THE MIRROR, second part: integers, truth values, stores, slices -/
namespace Go.Am
variable {P : Program}

section
variable {R : Type}
noncomputable def intC (x : Int) (f g : Nat → R) : R := @Int.rec (fun _ => R) f g x
noncomputable def ileX (a b : Int) : Bool :=
  @Int.rec (fun _ => Bool) (fun a => @Int.rec (fun _ => Bool) (fun b => Nat.ble a b) (fun _ => false) b) (fun a => @Int.rec (fun _ => Bool) (fun _ => true) (fun b => Nat.ble b a) b) a
theorem ileX_eq (a b : Int) : ileX a b = decide (a ≤ b) := by
  cases a with
  | ofNat a => cases b with
    | ofNat b => show Nat.ble a b = _; rw [Bool.eq_iff_iff]; simp [Nat.ble_eq]
    | negSucc b => show false = _; rw [eq_comm, decide_eq_false_iff_not]; intro h; have : (a : Int) ≤ Int.negSucc b := h; omega
  | negSucc a => cases b with
    | ofNat b => show true = _; rw [eq_comm, decide_eq_true_iff]; show Int.negSucc a ≤ (b : Int); omega
    | negSucc b => show Nat.ble b a = _; rw [Bool.eq_iff_iff]; simp [Nat.ble_eq]; omega
noncomputable def ieqX (a b : Int) : Bool :=
  @Int.rec (fun _ => Bool) (fun a => @Int.rec (fun _ => Bool) (fun b => Nat.beq a b) (fun _ => false) b) (fun a => @Int.rec (fun _ => Bool) (fun _ => false) (fun b => Nat.beq a b) b) a
theorem ieqX_eq (a b : Int) : ieqX a b = decide (a = b) := by
  cases a with
  | ofNat a => cases b with
    | ofNat b => show Nat.beq a b = _; rw [Bool.eq_iff_iff]; simp only [Nat.beq_eq, decide_eq_true_eq]; exact ⟨fun h => by rw [h], fun h => by injection h⟩
    | negSucc b => show false = _; rw [eq_comm, decide_eq_false_iff_not]; intro h; cases h
  | negSucc a => cases b with
    | ofNat b => show false = _; rw [eq_comm, decide_eq_false_iff_not]; intro h; cases h
    | negSucc b => show Nat.beq a b = _; rw [Bool.eq_iff_iff]; simp
end

noncomputable def kIdx (k : IntKind) : Nat := @IntKind.rec (fun _ => Nat) 0 1 2 3 4 5 6 7 k
theorem kIdx_inj {a b : IntKind} (h : Nat.beq (kIdx a) (kIdx b) = true) : a = b := by
  cases a <;> cases b <;> first | rfl | exact absurd h (by decide)
noncomputable def inBX (k : IntKind) (n : Int) : Bool := ifX (ileX k.min n) (ileX n k.max) false
theorem inBX_eq {k : IntKind} {n : Int} (h : inBX k n = true) : k.min ≤ n ∧ n ≤ k.max := by
  unfold inBX at h
  rw [ifX_eq] at h
  split at h
  · rename_i h1
    rw [ileX_eq] at h h1
    exact ⟨of_decide_eq_true h1, of_decide_eq_true h⟩
  · cases h

abbrev BinF := IntKind → Int → Int → Option Value
noncomputable def b_add : BinF := fun k a b => ifX (inBX k (Int.add a b)) (some (.int k (Int.add a b))) none
noncomputable def b_sub : BinF := fun k a b => ifX (inBX k (Int.sub a b)) (some (.int k (Int.sub a b))) none
noncomputable def b_mul : BinF := fun k a b => ifX (Nat.beq (kIdx k) 7) (some (.int k (k.wrap (Int.mul a b)))) (ifX (inBX k (Int.mul a b)) (some (.int k (Int.mul a b))) none)
noncomputable def b_quo : BinF := fun k a b => ifX (ileX 0 a) (ifX (ileX 1 b) (ifX (ileX a k.max) (some (.int k (a / b))) none) none) none
noncomputable def b_rem : BinF := fun k a b => ifX (ieqX b 0) none (some (.int k (a.tmod b)))
noncomputable def b_and : BinF := fun k a b => some (.int k (andK k a b))
noncomputable def b_shr : BinF := fun k a b => ifX (ileX 0 b) (ifX (Nat.ble b.toNat k.bits) (some (.int k (a / 2 ^ b.toNat))) none) none
noncomputable def b_eql : BinF := fun _ a b => some (.bool (ieqX a b))
noncomputable def b_neq : BinF := fun _ a b => some (.bool (ifX (ieqX a b) false true))
noncomputable def b_lss : BinF := fun _ a b => some (.bool (ifX (ileX b a) false true))
noncomputable def b_leq : BinF := fun _ a b => some (.bool (ileX a b))
noncomputable def b_gtr : BinF := fun _ a b => some (.bool (ifX (ileX a b) false true))
noncomputable def b_geq : BinF := fun _ a b => some (.bool (ileX b a))
def b_no : BinF := fun _ _ _ => none

noncomputable def binX (op : BinOp) : BinF := @BinOp.rec (fun _ => BinF) b_add b_sub b_mul b_quo b_rem b_and b_no b_no b_no b_shr b_no b_eql b_neq b_lss b_leq b_gtr b_geq op

theorem binX_ok {op : BinOp} {k : IntKind} {a b : Int} {v : Value} (h : binX op k a b = some v) : ∀ K : Value → Prop, K v → intW op k a b K := by
  intro K hK
  cases op with
  | add =>
    rcases ifX_some (show ifX _ _ _ = some v from h) with ⟨hb, h⟩ | ⟨_, h⟩
    · simp only [Option.some.injEq] at h; subst h; exact ⟨inBX_eq hb, hK⟩
    · cases h
  | sub =>
    rcases ifX_some (show ifX _ _ _ = some v from h) with ⟨hb, h⟩ | ⟨_, h⟩
    · simp only [Option.some.injEq] at h; subst h; exact ⟨inBX_eq hb, hK⟩
    · cases h
  | mul =>
    show mulW k a b K
    unfold mulW
    rcases ifX_some (show ifX _ _ _ = some v from h) with ⟨hb, h⟩ | ⟨hb, h⟩
    · have hk : k = .u64 := kIdx_inj (b := .u64) hb
      simp only [Option.some.injEq] at h; subst h
      rw [if_pos hk]; exact hK
    · have hk : k ≠ .u64 := by intro e; subst e; exact absurd hb (by decide)
      rw [if_neg hk]
      rcases ifX_some h with ⟨hb, h⟩ | ⟨_, h⟩
      · simp only [Option.some.injEq] at h; subst h; exact ⟨inBX_eq hb, hK⟩
      · cases h
  | quo =>
    rcases ifX_some (show ifX _ _ _ = some v from h) with ⟨h1, h⟩ | ⟨_, h⟩
    · rcases ifX_some h with ⟨h2, h⟩ | ⟨_, h⟩
      · rcases ifX_some h with ⟨h3, h⟩ | ⟨_, h⟩
        · simp only [Option.some.injEq] at h; subst h
          rw [ileX_eq, decide_eq_true_eq] at h1 h2 h3
          exact ⟨⟨h1, by omega, h3⟩, hK⟩
        · cases h
      · cases h
    · cases h
  | rem =>
    rcases ifX_some (show ifX _ _ _ = some v from h) with ⟨_, h⟩ | ⟨h1, h⟩
    · cases h
    · simp only [Option.some.injEq] at h; subst h
      rw [ieqX_eq, decide_eq_false_iff_not] at h1
      exact ⟨h1, hK⟩
  | and =>
    have h : some (Value.int k (andK k a b)) = some v := h
    simp only [Option.some.injEq] at h; subst h; exact hK
  | shr =>
    rcases ifX_some (show ifX _ _ _ = some v from h) with ⟨h1, h⟩ | ⟨_, h⟩
    · rcases ifX_some h with ⟨h2, h⟩ | ⟨_, h⟩
      · simp only [Option.some.injEq] at h; subst h
        rw [ileX_eq, decide_eq_true_eq] at h1
        exact ⟨⟨h1, Nat.le_of_ble_eq_true h2⟩, hK⟩
      · cases h
    · cases h
  | eql =>
    have h : some (Value.bool (ieqX a b)) = some v := h
    simp only [Option.some.injEq] at h; subst h
    show K (.bool (a == b))
    rw [ieqX_eq] at hK; exact hK
  | neq =>
    have h : some (Value.bool (ifX (ieqX a b) false true)) = some v := h
    simp only [Option.some.injEq] at h; subst h
    show K (.bool (a != b))
    have e : (a != b) = ifX (ieqX a b) false true := by
      rw [ifX_eq, ieqX_eq]
      by_cases h : a = b
      · simp [h]
      · simp [h]
    rw [e]; exact hK
  | lss =>
    have h : some (Value.bool (ifX (ileX b a) false true)) = some v := h
    simp only [Option.some.injEq] at h; subst h
    show K (.bool (decide (a < b)))
    have e : decide (a < b) = ifX (ileX b a) false true := by
      rw [ifX_eq, ileX_eq]
      by_cases h : a < b
      · have : ¬ b ≤ a := by omega
        simp [h, this]
      · have : b ≤ a := by omega
        simp [this]
    rw [e]; exact hK
  | leq =>
    have h : some (Value.bool (ileX a b)) = some v := h
    simp only [Option.some.injEq] at h; subst h
    show K (.bool (decide (a ≤ b)))
    rw [ileX_eq] at hK; exact hK
  | gtr =>
    have h : some (Value.bool (ifX (ileX a b) false true)) = some v := h
    simp only [Option.some.injEq] at h; subst h
    show K (.bool (decide (a > b)))
    have e : decide (a > b) = ifX (ileX a b) false true := by
      rw [ifX_eq, ileX_eq]
      by_cases h : b < a
      · have : ¬ a ≤ b := by omega
        simp [h, this]
      · have : a ≤ b := by omega
        simp [this]
    rw [e]; exact hK
  | geq =>
    have h : some (Value.bool (ileX b a)) = some v := h
    simp only [Option.some.injEq] at h; subst h
    show K (.bool (decide (a ≥ b)))
    rw [ileX_eq] at hK; exact hK
  | _ => exact absurd h (by intro e; cases e)
end Go.Am
end
section
/- OPERATIONS OF THE MIRROR, third part -/
namespace Go.Am
variable {P : Program}

noncomputable def bbX (op : BinOp) (a b : Bool) : Option Value :=
  @BinOp.rec (fun _ => Option Value) none none none none none none none none none none none (some (.bool (ifX a b (ifX b false true)))) (some (.bool (ifX a (ifX b false true) b))) none none none none op
noncomputable def x_binOp (op : BinOp) (t : TypeId) (x y : Operand) (_ : TypeId) : OpF P := fun T _ e n h =>
  litK (evX x e) (fun v => litK (evX y e) (fun w =>
    valK v (fun k a => intK w (fun k' b => ifX (Nat.beq (kIdx k) (kIdx k')) (opt (binX op k a b) fun u => some ⟨.lit u, n, h⟩) none) none)
      (fun a => boolK w (fun b => ifX (Nat.beq (T.ty t).kind 6) (opt (bbX op a b) fun u => some ⟨.lit u, n, h⟩) none) none) (fun _ => none) none) none) none
noncomputable def x_not (x : Operand) : OpF P := fun _ _ e n h => litK (evX x e) (fun v => boolK v (fun b => some ⟨.lit (.bool (ifX b false true)), n, h⟩) none) none
noncomputable def negI (k : IntKind) (a : Int) : Option Value := ifX (Nat.beq (kIdx k) 7) none (ifX (inBX k (Int.neg a)) (some (.int k (Int.neg a))) none)
noncomputable def x_neg (x : Operand) : OpF P := fun _ _ e n h => litK (evX x e) (fun v => intK v (fun k a => opt (negI k a) fun u => some ⟨.lit u, n, h⟩) none) none
noncomputable def x_unOp (op : UnOp) (_ : TypeId) (x : Operand) : OpF P :=
  match op with
  | .not => x_not x
  | .neg => x_neg x
  | _ => fun _ _ _ _ _ => none
noncomputable def setC (cells : List AV) (c : Nat) (vs : List AV) : List AV :=
  @List.rec AV (fun _ => Nat → List AV → List AV) (fun _ cells => cells) (fun v _ ih c cells => ih (Nat.succ c) (setX v cells c)) vs c cells
theorem setC_eq (vs : List AV) : ∀ (cells : List AV) (c : Nat), setC cells c vs = setCells cells c vs := by
  induction vs with
  | nil => intro cells c; rfl
  | cons v vs ih => intro cells c; show setC (setX v cells c) (c + 1) vs = _; rw [ih, setX_eq]; rfl
/-- an object's row, replaced -/
noncomputable def strX (n : Nat) (h : E5) (id r : Nat) (row : List AV) (v : AV) : Option VS :=
  obX n h id (fun _ => p5 id (.var row) h fun h' => some ⟨v, n, h'⟩) (fun sz rows => p5 id (.arr sz (setX row rows r)) h fun h' => some ⟨v, n, h'⟩) (fun _ _ => none) none
noncomputable def x_store (t : TypeId) (a x : Operand) : OpF P := fun T _ e n h =>
  kOK (T.ty t) (addrK (evX a e) (fun id r c => opt (rowX n h id r) fun row =>
    ifX (Nat.beq (lenX (celX (evX x e)) 0) (T.ty t).size) (ifX (Nat.ble (c + (T.ty t).size) (lenX row 0)) (ifX (allX (celX (evX x e))) (ifX (Nat.ble n 32768) (strX n h id r (setC row c (celX (evX x e))) .undef) none) none) none) none) (fun _ => none) none) none
noncomputable def x_extract (x : Operand) (i : Nat) : OpF P := fun _ _ e n h => tupK (evX x e) (fun vs => opt (nthX vs i) fun v => some ⟨v, n, h⟩) none
noncomputable def x_makeInterface (t : TypeId) (x : Operand) : OpF P := fun _ _ e n h => ifX (ifaceB P t) none (some ⟨.ifc t (evX x e), n, h⟩)
noncomputable def x_field (s : TypeId) (x : Operand) (f : Nat) : OpF P := fun T _ e n h =>
  ifX (Nat.beq (T.ty s).kind 3) (opt (nthX (T.ty s).flds f) fun p => kOK (T.ty p.2.1) (ifX (Nat.beq p.2.2 (T.ty p.2.1).size) (aggK (evX x e) (fun cs =>
    ifX (T.ty p.2.1).isAgg (ifX (Nat.ble (p.1 + p.2.2) (lenX cs 0)) (some ⟨.agg (takeX (dropX cs p.1) p.2.2), n, h⟩) none) (opt (nthX cs p.1) fun v => some ⟨v, n, h⟩)) none) none) none) none

section
variable {dst : Option Tmp} {tt : TypeId} {p : String} {af : Array Edge} {g : Option (Nat × Bool)} {T : Env P} {call : CallX} {e : E3} {n : Nat} {h : E5} {r : VS}

theorem some_VS {v : AV} (hr : some (⟨v, n, h⟩ : VS) = some r) : r.v = v ∧ r.n = n ∧ r.ob = h := by
  simp only [Option.some.injEq] at hr
  subst hr
  exact ⟨rfl, rfl, rfl⟩

theorem bbX_ok {op : BinOp} {a b : Bool} {v : Value} (hv : bbX op a b = some v) : (op = .eql ∧ v = .bool (a == b)) ∨ (op = .neq ∧ v = .bool (a != b)) := by
  cases op with
  | eql =>
    have hv : some (Value.bool (ifX a b (ifX b false true))) = some v := hv
    simp only [Option.some.injEq] at hv
    left; refine ⟨rfl, ?_⟩; rw [← hv]; cases a <;> cases b <;> rfl
  | neq =>
    have hv : some (Value.bool (ifX a (ifX b false true) b)) = some v := hv
    simp only [Option.some.injEq] at hv
    right; refine ⟨rfl, ?_⟩; rw [← hv]; cases a <;> cases b <;> rfl
  | _ => exact absurd hv (by intro e; cases e)

theorem x_binOp_ok {op : BinOp} {t : TypeId} {x y : Operand} {u : TypeId} (hr : x_binOp op t x y u T call e n h = some r) : SndX P ⟨dst, .binOp op t x y u, tt, p, af, g⟩ e n h r := by
  intro K hK
  simp only [x_binOp] at hr
  have hx := evX_eq x e (obsA n h)
  have hy := evX_eq y e (obsA n h)
  cases hv : evX x e with
  | lit v =>
    cases hw : evX y e with
    | lit w =>
      rw [hv] at hr hx
      rw [hw] at hr hy
      cases v with
      | int k a =>
        cases w with
        | int k' b =>
          rcases ifX_some (show ifX (Nat.beq (kIdx k) (kIdx k')) (opt (binX op k a b) fun u => some (⟨.lit u, n, h⟩ : VS)) none = some r from hr) with ⟨hb, hr⟩ | ⟨_, hr⟩
          · obtain ⟨z, hz, hr⟩ := opt_some hr
            obtain ⟨h1, h2, h3⟩ := some_VS hr
            unfold opW
            simp only [← hx, ← hy]
            refine ⟨kIdx_inj hb, binX_ok hz _ ?_⟩
            rw [h1, h2, h3] at hK; exact hK
          · cases hr
        | _ => exact absurd hr (by intro e; cases e)
      | bool a =>
        cases w with
        | bool b =>
          rcases ifX_some (show ifX (Nat.beq (T.ty t).kind 6) (opt (bbX op a b) fun u => some (⟨.lit u, n, h⟩ : VS)) none = some r from hr) with ⟨hb, hr⟩ | ⟨_, hr⟩
          · obtain ⟨z, hz, hr⟩ := opt_some hr
            obtain ⟨h1, h2, h3⟩ := some_VS hr
            rw [T.tyOK] at hb
            rw [h1, h2, h3] at hK
            unfold opW
            simp only [← hx, ← hy]
            refine ⟨Nat.eq_of_beq_eq_true hb, ?_⟩
            rcases bbX_ok hz with ⟨rfl, rfl⟩ | ⟨rfl, rfl⟩ <;> exact hK
          · cases hr
        | _ => exact absurd hr (by intro e; cases e)
      | _ => exact absurd hr (by intro e; cases e)
    | _ => rw [hv, hw] at hr; exact absurd hr (by intro e; cases e)
  | _ => rw [hv] at hr; exact absurd hr (by intro e; cases e)

theorem x_unOp_ok {op : UnOp} {t : TypeId} {x : Operand} (hr : x_unOp op t x T call e n h = some r) : SndX P ⟨dst, .unOp op t x, tt, p, af, g⟩ e n h r := by
  intro K hK
  have hx := evX_eq x e (obsA n h)
  cases op with
  | not =>
    have hr : x_not x T call e n h = some r := hr
    simp only [x_not] at hr
    cases hv : evX x e with
    | lit v =>
      rw [hv] at hr hx
      cases v with
      | bool b =>
        obtain ⟨h1, h2, h3⟩ := some_VS (show some (⟨.lit (.bool (ifX b false true)), n, h⟩ : VS) = some r from hr)
        unfold opW
        simp only [← hx]
        rw [h1, h2, h3] at hK
        cases b <;> exact hK
      | _ => exact absurd hr (by intro e; cases e)
    | _ => rw [hv] at hr; exact absurd hr (by intro e; cases e)
  | neg =>
    have hr : x_neg x T call e n h = some r := hr
    simp only [x_neg] at hr
    cases hv : evX x e with
    | lit v =>
      rw [hv] at hr hx
      cases v with
      | int k a =>
        obtain ⟨z, hz, hr⟩ := opt_some (show opt (negI k a) (fun u => some (⟨.lit u, n, h⟩ : VS)) = some r from hr)
        obtain ⟨h1, h2, h3⟩ := some_VS hr
        unfold opW
        simp only [← hx]
        rw [h1, h2, h3] at hK
        unfold negI at hz
        rcases ifX_some hz with ⟨_, hz⟩ | ⟨hb, hz⟩
        · cases hz
        · rcases ifX_some hz with ⟨hc, hz⟩ | ⟨_, hz⟩
          · simp only [Option.some.injEq] at hz
            subst hz
            have hk : k ≠ .u64 := by intro e; subst e; exact absurd hb (by decide)
            unfold negW
            rw [if_neg hk]
            exact ⟨inBX_eq hc, hK⟩
          · cases hz
      | _ => exact absurd hr (by intro e; cases e)
    | _ => rw [hv] at hr; exact absurd hr (by intro e; cases e)
  | _ => exact absurd hr (by intro e; cases e)

theorem x_extract_ok {x : Operand} {i : Nat} (hr : x_extract x i T call e n h = some r) : SndX P ⟨dst, .extract x i, tt, p, af, g⟩ e n h r := by
  intro K hK
  simp only [x_extract] at hr
  have hx := evX_eq x e (obsA n h)
  cases hv : evX x e with
  | tup vs =>
    rw [hv] at hr hx
    obtain ⟨v, hz, hr⟩ := opt_some (show opt (nthX vs i) (fun v => some (⟨v, n, h⟩ : VS)) = some r from hr)
    obtain ⟨h1, h2, h3⟩ := some_VS hr
    rw [nthX_eq] at hz
    unfold opW
    simp only [← hx, hz]
    rw [h1, h2, h3] at hK; exact hK
  | _ => rw [hv] at hr; exact absurd hr (by intro e; cases e)

theorem strX_ok {id rr : Nat} {row row' : List AV} {v : AV} (hn : n ≤ 32768) (hrow : rowX n h id rr = some row) (hr : strX n h id rr row' v = some r) :
    r.v = v ∧ r.n = n ∧ (⟨envA e, obsA r.n r.ob⟩ : St) = setRowOf ⟨envA e, obsA n h⟩ id rr row' := by
  unfold strX obX at hr
  rcases ifX_some hr with ⟨hb, hr⟩ | ⟨_, hr⟩
  · have hi := blt_true.1 hb
    unfold setRowOf
    simp only [obsA_get h hi]
    cases ho : g5 id h with
    | var cells =>
      rw [ho] at hr
      have hr : p5 id (.var row') h (fun h' => some (⟨v, n, h'⟩ : VS)) = some r := hr
      rw [p5_eq] at hr
      simp only [Option.some.injEq] at hr
      subst hr
      refine ⟨rfl, rfl, ?_⟩
      simp only [obsA_set hn hi]
    | arr sz rows =>
      rw [ho] at hr
      have hr : p5 id (.arr sz (setX row' rows rr)) h (fun h' => some (⟨v, n, h'⟩ : VS)) = some r := hr
      rw [p5_eq] at hr
      simp only [Option.some.injEq] at hr
      subst hr
      refine ⟨rfl, rfl, ?_⟩
      simp only [obsA_set hn hi, setX_eq]
    | _ => rw [ho] at hr; exact absurd hr (by intro e; cases e)
  · cases hr

theorem x_store_ok {t : TypeId} {a x : Operand} (hr : x_store t a x T call e n h = some r) : SndX P ⟨dst, .store t a x, tt, p, af, g⟩ e n h r := by
  intro K hK
  simp only [x_store] at hr
  obtain ⟨hk, hr⟩ := kOK_some hr
  have ha := evX_eq a e (obsA n h)
  cases hv : evX a e with
  | ptr id rr c =>
    rw [hv] at hr ha
    obtain ⟨row, hrow, hr⟩ := opt_some (show opt (rowX n h id rr) _ = some r from hr)
    rcases ifX_some hr with ⟨h1, hr⟩ | ⟨_, hr⟩
    · rcases ifX_some hr with ⟨h2, hr⟩ | ⟨_, hr⟩
      · rcases ifX_some hr with ⟨h3, hr⟩ | ⟨_, hr⟩
        · rcases ifX_some hr with ⟨h4, hr⟩ | ⟨_, hr⟩
          · obtain ⟨k1, k2, k3⟩ := strX_ok (e := e) (Nat.le_of_ble_eq_true h4) hrow hr
            rw [rowX_eq (envA e)] at hrow
            rw [celX_eq, evX_eq x e (obsA n h), lenX_eq, T.tyOK] at h1
            rw [lenX_eq, T.tyOK] at h2
            rw [allX_eq, celX_eq, evX_eq x e (obsA n h)] at h3
            rw [T.tyOK] at hk
            unfold opW
            simp only [← ha, hrow]
            refine ⟨hk, ⟨by simpa using Nat.eq_of_beq_eq_true h1, by simpa using Nat.le_of_ble_eq_true h2, h3⟩, ?_⟩
            rw [k1, k3, setC_eq, celX_eq, evX_eq x e (obsA n h)] at hK
            exact hK
          · cases hr
        · cases hr
      · cases hr
    · cases hr
  | _ => rw [hv] at hr; exact absurd hr (by intro e; cases e)

theorem x_makeInterface_ok {t : TypeId} {x : Operand} (hr : x_makeInterface t x T call e n h = some r) : SndX P ⟨dst, .makeInterface t x, tt, p, af, g⟩ e n h r := by
  intro K hK
  simp only [x_makeInterface] at hr
  rcases ifX_some hr with ⟨_, hr⟩ | ⟨hb, hr⟩
  · cases hr
  · obtain ⟨h1, h2, h3⟩ := some_VS hr
    unfold opW
    refine ⟨hb, ?_⟩
    rw [h1, h2, h3, evX_eq x e (obsA n h)] at hK; exact hK

theorem x_field_ok {s : TypeId} {x : Operand} {f : Nat} (hr : x_field s x f T call e n h = some r) : SndX P ⟨dst, .field s x f, tt, p, af, g⟩ e n h r := by
  intro K hK
  simp only [x_field] at hr
  rcases ifX_some hr with ⟨hb, hr⟩ | ⟨_, hr⟩
  · have hkind : (ty P s).kind = 3 := by rw [T.tyOK] at hb; exact Nat.eq_of_beq_eq_true hb
    obtain ⟨⟨off, ft, size⟩, hf, hr⟩ := opt_some hr
    rw [nthX_eq, T.tyOK] at hf
    obtain ⟨hk, hr⟩ := kOK_some hr
    simp only [T.tyOK] at hk hr
    rcases ifX_some hr with ⟨hs, hr⟩ | ⟨_, hr⟩
    · have hs : size = (ty P ft).size := Nat.eq_of_beq_eq_true hs
      have ha := evX_eq x e (obsA n h)
      cases hv : evX x e with
      | agg cs =>
        rw [hv] at hr ha
        unfold opW
        simp only [hkind, hf, ← ha]
        refine ⟨hk, hs, ?_⟩
        rcases ifX_some (show ifX (ty P ft).isAgg _ _ = some r from hr) with ⟨hg, hr⟩ | ⟨hg, hr⟩
        · rw [if_pos hg]
          rcases ifX_some hr with ⟨hl, hr⟩ | ⟨_, hr⟩
          · obtain ⟨h1, h2, h3⟩ := some_VS hr
            rw [lenX_eq] at hl
            refine ⟨by simpa using Nat.le_of_ble_eq_true hl, ?_⟩
            rw [h1, h2, h3, takeX_eq, dropX_eq] at hK; exact hK
          · cases hr
        · rw [if_neg (by rw [hg]; simp)]
          obtain ⟨v, hz, hr⟩ := opt_some hr
          obtain ⟨h1, h2, h3⟩ := some_VS hr
          rw [nthX_eq] at hz
          simp only [hz]
          rw [h1, h2, h3] at hK; exact hK
      | _ => rw [hv] at hr; exact absurd hr (by intro e; cases e)
    · cases hr
  · cases hr
end
end Go.Am
end
section
/- OPERATIONS OF THE MIRROR, fourth part: slices -/
namespace Go.Am
variable {P : Program}

noncomputable def gd {β : Type} (b : Bool) (x : Option β) : Option β := ifX b x none
theorem gd_some {β : Type} {b : Bool} {x : Option β} {r : β} (h : gd b x = some r) : b = true ∧ x = some r := by
  rcases ifX_some h with h | ⟨_, h⟩
  · exact h
  · cases h
theorem beq_nat {a b : Nat} (h : Nat.beq a b = true) : a = b := Nat.eq_of_beq_eq_true h

/-- an array of one's own -/
noncomputable def arrX {β : Type} (n : Nat) (h : E5) (id : Nat) (f : Nat → List (List AV) → Option β) : Option β := obX n h id (fun _ => none) f (fun _ _ => none) none
theorem arrX_some {β : Type} {n : Nat} {h : E5} {id : Nat} {f : Nat → List (List AV) → Option β} {b : β} (hr : arrX n h id f = some b) : ∃ sz rows, id < n ∧ (obsA n h)[id]? = some (.arr sz rows) ∧ f sz rows = some b := by
  unfold arrX obX at hr
  rcases ifX_some hr with ⟨hb, hr⟩ | ⟨_, hr⟩
  · have hi := blt_true.1 hb
    cases ho : g5 id h with
    | arr sz rows => rw [ho] at hr; exact ⟨sz, rows, hi, by rw [obsA_get _ hi, ho], hr⟩
    | _ => rw [ho] at hr; exact absurd hr (by intro e; cases e)
  · cases hr

noncomputable def natX {R : Type} (v : AV) (k : IntKind → Nat → R) (d : R) : R := litK v (fun w => intK w (fun kk m => intC m (fun j => k kk j) (fun _ => d)) d) d
theorem natX_some {β : Type} {v : AV} {k : IntKind → Nat → Option β} {b : β} (hr : natX v k none = some b) : ∃ kk j, v = .lit (.int kk (Int.ofNat j)) ∧ k kk j = some b := by
  unfold natX at hr
  cases v with
  | lit w =>
    cases w with
    | int kk m =>
      cases m with
      | ofNat j => exact ⟨kk, j, rfl, hr⟩
      | negSucc j => exact absurd hr (by intro e; cases e)
    | _ => exact absurd hr (by intro e; cases e)
  | _ => exact absurd hr (by intro e; cases e)

noncomputable def ixS (E : Ty) (v : AV) (j : Nat) (n : Nat) (h : E5) : Option VS :=
  seqK v (fun id sz off len => arrX n h id fun sz' _ => gd (Nat.beq sz' sz) (gd (Nat.beq sz E.size) (kOK E (gd (Nat.blt j len) (some ⟨.ptr id (off + j) 0, n, h⟩)) none)))
    (fun sz rows => gd (Nat.beq sz E.size) (kOK E (opt (nthX rows j) fun row => some ⟨.taddr row, n, h⟩) none)) (fun _ => none) none
noncomputable def ixA (L : Nat) (E : Ty) (v : AV) (j : Nat) (n : Nat) (h : E5) : Option VS :=
  gd (Nat.blt j L) (kOK E (addrK v (fun id r c => livX n h id (some ⟨.ptr id r (c + Nat.mul j E.size), n, h⟩) none) (fun cells => some ⟨.taddr (dropX cells (Nat.mul j E.size)), n, h⟩) none) none)
noncomputable def x_indexAddr (t : TypeId) (x i : Operand) : OpF P := fun T _ e n h =>
  natX (evX i e) (fun _ j => ifX (Nat.beq (T.ty t).kind 1) (ixS (T.ty (T.ty t).elem) (evX x e) j n h) (gd (Nat.beq (T.ty t).kind 2) (ixA (T.ty t).len (T.ty (T.ty t).elem) (evX x e) j n h))) none

noncomputable def x_makeFunc (fn : Fn) (first captured : Array Operand) : OpF P := fun _ _ e n h =>
  match fn with
  | .func f => gd (Nat.beq first.size 0) (some ⟨.fn f (captured.toList.map fun x => evX x e), n, h⟩)
  | _ => none

section
variable {dst : Option Tmp} {tt : TypeId} {p : String} {af : Array Edge} {g : Option (Nat × Bool)} {T : Env P} {call : CallX} {e : E3} {n : Nat} {h : E5} {r : VS}

theorem x_indexAddr_ok {t : TypeId} {x i : Operand} (hr : x_indexAddr t x i T call e n h = some r) : SndX P ⟨dst, .indexAddr t x i, tt, p, af, g⟩ e n h r := by
  intro K hK
  simp only [x_indexAddr] at hr
  obtain ⟨kk, j, hi, hr⟩ := natX_some hr
  have hi' := evX_eq i e (obsA n h)
  rw [hi] at hi'
  have hx := evX_eq x e (obsA n h)
  simp only [T.tyOK] at hr
  rcases ifX_some hr with ⟨hk, hr⟩ | ⟨_, hr⟩
  · have hk := beq_nat hk
    unfold ixS at hr
    unfold opW
    cases hv : evX x e with
    | ref id sz off len =>
      rw [hv] at hr hx
      obtain ⟨sz', rows, hl, ho, hr⟩ := arrX_some (show arrX n h id _ = some r from hr)
      obtain ⟨h1, hr⟩ := gd_some hr
      obtain ⟨h2, hr⟩ := gd_some hr
      obtain ⟨h3, hr⟩ := kOK_some hr
      obtain ⟨h4, hr⟩ := gd_some hr
      obtain ⟨k1, k2, k3⟩ := some_VS hr
      simp only [hk, ← hx, ← hi', ho]
      have h4 := blt_true.1 h4
      refine ⟨⟨beq_nat h1, beq_nat h2, h3, Int.natCast_nonneg _, by show (j : Int) < len; omega⟩, ?_⟩
      rw [k1, k2, k3] at hK; exact hK
    | tree sz rows =>
      rw [hv] at hr hx
      obtain ⟨h2, hr⟩ := gd_some (show gd (Nat.beq sz _) _ = some r from hr)
      obtain ⟨h3, hr⟩ := kOK_some hr
      obtain ⟨row, hrow, hr⟩ := opt_some hr
      obtain ⟨k1, k2, k3⟩ := some_VS hr
      rw [nthX_eq] at hrow
      have hlt := (List.getElem?_eq_some_iff.1 hrow).1
      simp only [hk, ← hx, ← hi']
      refine ⟨⟨beq_nat h2, h3, Int.natCast_nonneg _, by show (j : Int) < rows.length; omega⟩, ?_⟩
      have e1 : rows.getD (Int.ofNat j).toNat [] = row := by
        show rows.getD j [] = row
        rw [List.getD_eq_getElem?_getD, hrow]; rfl
      rw [e1]
      rw [k1, k2, k3] at hK; exact hK
    | _ => rw [hv] at hr; exact absurd hr (by intro e; cases e)
  · obtain ⟨hk, hr⟩ := gd_some hr
    have hk := beq_nat hk
    unfold ixA at hr
    obtain ⟨h1, hr⟩ := gd_some hr
    have h1 := blt_true.1 h1
    obtain ⟨h3, hr⟩ := kOK_some hr
    unfold opW
    cases hv : evX x e with
    | ptr id rr c =>
      rw [hv] at hr hx
      obtain ⟨hr, o, ho, hg⟩ := livX_some (show livX n h id (some (⟨.ptr id rr (c + Nat.mul j _), n, h⟩ : VS)) none = some r from hr)
      obtain ⟨k1, k2, k3⟩ := some_VS hr
      rw [k1, k2, k3] at hK
      simp only [hk, ← hx, ← hi', ho]
      cases o <;> first | exact absurd rfl hg | exact ⟨⟨h3, Int.natCast_nonneg _, by show (j : Int) < (ty P t).len; omega⟩, hK⟩
    | taddr cells =>
      rw [hv] at hr hx
      obtain ⟨k1, k2, k3⟩ := some_VS (show some (⟨.taddr (dropX cells (Nat.mul j _)), n, h⟩ : VS) = some r from hr)
      rw [k1, k2, k3, dropX_eq] at hK
      simp only [hk, ← hx, ← hi']
      exact ⟨⟨h3, Int.natCast_nonneg _, by show (j : Int) < (ty P t).len; omega⟩, hK⟩
    | _ => rw [hv] at hr; exact absurd hr (by intro e; cases e)

theorem map_evX (l : List Operand) (os : List Ob) : l.map (fun x => evX x e) = l.map (ev ⟨envA e, os⟩) := List.map_congr_left fun x _ => evX_eq x e os

theorem x_makeFunc_ok {fn : Fn} {first captured : Array Operand} (hr : x_makeFunc fn first captured T call e n h = some r) : SndX P ⟨dst, .makeFunc fn first captured, tt, p, af, g⟩ e n h r := by
  intro K hK
  simp only [x_makeFunc] at hr
  cases fn with
  | func f =>
    obtain ⟨h1, hr⟩ := gd_some hr
    obtain ⟨k1, k2, k3⟩ := some_VS hr
    unfold opW
    refine ⟨beq_nat h1, ?_⟩
    rw [k1, k2, k3, map_evX _ (obsA n h)] at hK
    exact hK
  | _ => cases hr
end
end Go.Am
end
section
/- OPERATIONS OF THE MIRROR, fifth part: lengths, appending, copying, making -/
namespace Go.Am
variable {P : Program}

def nilX {β : Type} (v : Value) (x : Option β) : Option β :=
  match v with
  | .slice none 0 0 => x
  | _ => none
theorem nilX_some {β : Type} {v : Value} {x : Option β} {b : β} (h : nilX v x = some b) : v = .slice none 0 0 ∧ x = some b := by
  unfold nilX at h
  split at h
  · exact ⟨rfl, h⟩
  · cases h

noncomputable def lenB (x : Operand) (t : TypeId) : OpF P := fun T _ e n h =>
  lenK (evX x e) (fun id sz _ len => gd (Nat.beq (T.ty t).kind 1) (arrX n h id fun sz' _ => gd (Nat.beq sz' sz) (some ⟨.lit (.int .i64 (Int.ofNat len)), n, h⟩)))
    (fun _ rows => gd (Nat.beq (T.ty t).kind 1) (some ⟨.lit (.int .i64 (Int.ofNat (lenX rows 0))), n, h⟩))
    (fun id => gd (Nat.beq (T.ty t).kind 8) (obX n h id (fun _ => none) (fun _ _ => none) (fun _ L => some ⟨.lit (.int .i64 (Int.ofNat L.length)), n, h⟩) none))
    (fun v => nilX v (gd (Nat.beq (T.ty t).kind 1) (some ⟨.lit (.int .i64 0), n, h⟩))) none
noncomputable def x_len (args : Array Operand) (ats : Array TypeId) : OpF P := fun T c e n h =>
  match args.toList, ats.toList with
  | [x], [t] => lenB x t T c e n h
  | _, _ => none

noncomputable def mm (f : Int → Int → Int) (x y : Operand) : OpF P := fun _ _ e n h =>
  litK (evX x e) (fun v => litK (evX y e) (fun w => intK v (fun k a => intK w (fun k' b => gd (Nat.beq (kIdx k) (kIdx k')) (some ⟨.lit (.int k (f a b)), n, h⟩)) none) none) none) none
noncomputable def x_min (args : Array Operand) : OpF P := fun T c e n h =>
  match args.toList with
  | [x, y] => mm (fun a b => ifX (ileX a b) a b) x y T c e n h
  | _ => none
noncomputable def x_max (args : Array Operand) : OpF P := fun T c e n h =>
  match args.toList with
  | [x, y] => mm (fun a b => ifX (ileX a b) b a) x y T c e n h
  | _ => none

/-- the rows of a slice that is read -/
noncomputable def srcX {β : Type} (n : Nat) (h : E5) (v : AV) (k : Nat → List (List AV) → Option β) : Option β :=
  seqK v (fun id sz off len => arrX n h id fun sz' rows => gd (Nat.beq sz' sz) (k sz (takeX (dropX rows off) len))) (fun sz rows => k sz rows) (fun _ => none) none
theorem srcX_some {β : Type} {e : Nat → AV} {n : Nat} {h : E5} {v : AV} {k : Nat → List (List AV) → Option β} {b : β} (hr : srcX n h v k = some b) :
    ∃ sz rows, srcRows ⟨e, obsA n h⟩ v = some (sz, rows) ∧ k sz rows = some b := by
  unfold srcX at hr
  cases v with
  | ref id sz off len =>
    obtain ⟨sz', rows, _, ho, hr⟩ := arrX_some (show arrX n h id _ = some b from hr)
    obtain ⟨h1, hr⟩ := gd_some hr
    have h1 := beq_nat h1
    refine ⟨sz, _, ?_, hr⟩
    unfold srcRows
    simp only [ho]
    rw [if_pos h1, takeX_eq, dropX_eq]
  | tree sz rows => exact ⟨sz, rows, rfl, hr⟩
  | _ => exact absurd hr (by intro e; cases e)

noncomputable def allR (l : List (List AV)) : Bool := @List.rec (List AV) (fun _ => Bool) true (fun r _ ih => ifX (allX r) ih false) l
theorem allR_eq (l : List (List AV)) : allR l = l.all fun row => row.all scal := by
  induction l with
  | nil => rfl
  | cons v l ih =>
    show ifX (allX v) (allR l) false = _
    rw [ifX_eq, allX_eq, ih, List.all_cons]
    cases v.all scal <;> simp

noncomputable def appB (d x : Operand) (t : TypeId) : OpF P := fun T _ e n h =>
  gd (Nat.beq (T.ty t).kind 1) (kOK (T.ty (T.ty t).elem) (gd (Nat.ble (T.ty (T.ty t).elem).bytes 128) (opt (T.ty (T.ty t).elem).zero fun z => gd (Nat.beq z.length (T.ty (T.ty t).elem).size) (gd (Nat.blt 0 (T.ty (T.ty t).elem).size)
    (srcX n h (evX x e) fun sz src => gd (Nat.beq sz (T.ty (T.ty t).elem).size) (gd (allR src)
      (seqK (evX d e) (fun id sz' off len => arrX n h id fun sz'' rows => gd (Nat.beq sz'' sz') (gd (Nat.beq sz' sz) (gd (Nat.ble n 32768) (gd (Nat.ble (lenX (takeX (dropX rows off) len) 0 + lenX src 0) 549755813888)
          (p5 id .gone h fun h1 => pshX n h1 (.arr sz (takeX (dropX rows off) len ++ src)) (.ref n sz 0 (lenX (takeX (dropX rows off) len) 0 + lenX src 0)))))))
        (fun _ _ => none) (fun v => nilX v (gd (Nat.ble (lenX src 0) 549755813888) (pshX n h (.arr sz src) (.ref n sz 0 (lenX src 0))))) none)))))) none)
noncomputable def x_append (args : Array Operand) (ats : Array TypeId) : OpF P := fun T c e n h =>
  match args.toList, ats.toList with
  | [d, x], [t, t'] => gd (Nat.beq t' t) (appB d x t T c e n h)
  | _, _ => none

section
variable {dst : Option Tmp} {tt : TypeId} {p : String} {af : Array Edge} {g : Option (Nat × Bool)} {T : Env P} {call : CallX} {e : E3} {n : Nat} {h : E5} {r : VS}

theorem x_len_ok {args : Array Operand} {ats : Array TypeId} (hr : x_len args ats T call e n h = some r) : SndX P ⟨dst, .call { callee := .builtin .len, args := args, argTypes := ats }, tt, p, af, g⟩ e n h r := by
  intro K hK
  unfold x_len at hr
  unfold opW
  split at hr
  · rename_i x t hxa hta
    simp only [hxa, hta]
    have hx := evX_eq x e (obsA n h)
    simp only [lenB, T.tyOK] at hr
    cases hv : evX x e with
    | ref id sz off len =>
      rw [hv] at hr hx
      obtain ⟨hk, hr⟩ := gd_some (show gd (Nat.beq (ty P t).kind 1) _ = some r from hr)
      obtain ⟨sz', rows, _, ho, hr⟩ := arrX_some hr
      obtain ⟨h1, hr⟩ := gd_some hr
      obtain ⟨k1, k2, k3⟩ := some_VS hr
      simp only [← hx, ho]
      refine ⟨beq_nat hk, beq_nat h1, ?_⟩
      rw [k1, k2, k3] at hK; exact hK
    | tree sz rows =>
      rw [hv] at hr hx
      obtain ⟨hk, hr⟩ := gd_some (show gd (Nat.beq (ty P t).kind 1) _ = some r from hr)
      obtain ⟨k1, k2, k3⟩ := some_VS hr
      simp only [← hx]
      refine ⟨beq_nat hk, ?_⟩
      rw [k1, k2, k3, lenX_eq] at hK; exact hK
    | mref id =>
      rw [hv] at hr hx
      obtain ⟨hk, hr⟩ := gd_some (show gd (Nat.beq (ty P t).kind 8) _ = some r from hr)
      unfold obX at hr
      rcases ifX_some hr with ⟨hb, hr⟩ | ⟨_, hr⟩
      · have hi := blt_true.1 hb
        cases ho : g5 id h with
        | mp ag L =>
          rw [ho] at hr
          obtain ⟨k1, k2, k3⟩ := some_VS (show some (⟨.lit (.int .i64 (Int.ofNat L.length)), n, h⟩ : VS) = some r from hr)
          simp only [← hx, obsA_get h hi, ho]
          refine ⟨beq_nat hk, ?_⟩
          rw [k1, k2, k3] at hK; exact hK
        | _ => rw [ho] at hr; exact absurd hr (by intro e; cases e)
      · cases hr
    | lit v =>
      rw [hv] at hr hx
      obtain ⟨rfl, hr⟩ := nilX_some (show nilX v _ = some r from hr)
      obtain ⟨hk, hr⟩ := gd_some hr
      obtain ⟨k1, k2, k3⟩ := some_VS hr
      simp only [← hx]
      refine ⟨beq_nat hk, ?_⟩
      rw [k1, k2, k3] at hK; exact hK
    | _ => rw [hv] at hr; exact absurd hr (by intro e; cases e)
  · cases hr

theorem mm_some {f : Int → Int → Int} {x y : Operand} (hr : mm f x y T call e n h = some r) :
    ∃ k a b, evX x e = .lit (.int k a) ∧ evX y e = .lit (.int k b) ∧ r = ⟨.lit (.int k (f a b)), n, h⟩ := by
  unfold mm at hr
  cases hv : evX x e with
  | lit v =>
    cases hw : evX y e with
    | lit w =>
      rw [hv, hw] at hr
      cases v with
      | int k a =>
        cases w with
        | int k' b =>
          obtain ⟨hb, hr⟩ := gd_some (show gd (Nat.beq (kIdx k) (kIdx k')) _ = some r from hr)
          have hk := kIdx_inj hb
          simp only [Option.some.injEq] at hr
          exact ⟨k, a, b, rfl, by rw [hk], hr.symm⟩
        | _ => exact absurd hr (by intro e; cases e)
      | _ => exact absurd hr (by intro e; cases e)
    | _ => rw [hv, hw] at hr; exact absurd hr (by intro e; cases e)
  | _ => rw [hv] at hr; exact absurd hr (by intro e; cases e)

theorem x_min_ok {args : Array Operand} {ats : Array TypeId} (hr : x_min args T call e n h = some r) : SndX P ⟨dst, .call { callee := .builtin .min, args := args, argTypes := ats }, tt, p, af, g⟩ e n h r := by
  intro K hK
  unfold x_min at hr
  unfold opW
  split at hr
  · rename_i x y hxa
    obtain ⟨k, a, b, h1, h2, rfl⟩ := mm_some hr
    rw [evX_eq x e (obsA n h)] at h1
    rw [evX_eq y e (obsA n h)] at h2
    simp only [hxa, h1, h2]
    refine ⟨trivial, ?_⟩
    have e1 : min a b = ifX (ileX a b) a b := by rw [ifX_eq, ileX_eq]; simp [Int.min_def]
    rw [e1]; exact hK
  · cases hr
theorem x_max_ok {args : Array Operand} {ats : Array TypeId} (hr : x_max args T call e n h = some r) : SndX P ⟨dst, .call { callee := .builtin .max, args := args, argTypes := ats }, tt, p, af, g⟩ e n h r := by
  intro K hK
  unfold x_max at hr
  unfold opW
  split at hr
  · rename_i x y hxa
    obtain ⟨k, a, b, h1, h2, rfl⟩ := mm_some hr
    rw [evX_eq x e (obsA n h)] at h1
    rw [evX_eq y e (obsA n h)] at h2
    simp only [hxa, h1, h2]
    refine ⟨trivial, ?_⟩
    have e1 : max a b = ifX (ileX a b) b a := by rw [ifX_eq, ileX_eq]; simp [Int.max_def]
    rw [e1]; exact hK
  · cases hr

theorem x_append_ok {args : Array Operand} {ats : Array TypeId} (hr : x_append args ats T call e n h = some r) : SndX P ⟨dst, .call { callee := .builtin .append, args := args, argTypes := ats }, tt, p, af, g⟩ e n h r := by
  intro K hK
  unfold x_append at hr
  unfold opW
  split at hr
  · rename_i d x t t' hxa hta
    simp only [hxa, hta]
    obtain ⟨ht, hr⟩ := gd_some hr
    simp only [appB, T.tyOK] at hr
    obtain ⟨hk, hr⟩ := gd_some hr
    obtain ⟨hk2, hr⟩ := kOK_some hr
    obtain ⟨hby, hr⟩ := gd_some hr
    obtain ⟨z, hz, hr⟩ := opt_some hr
    obtain ⟨hzl, hr⟩ := gd_some hr
    obtain ⟨hpos, hr⟩ := gd_some hr
    obtain ⟨sz, src, hsrc, hr⟩ := srcX_some (e := envA e) hr
    obtain ⟨hsz, hr⟩ := gd_some hr
    obtain ⟨hall, hr2⟩ := gd_some hr
    clear hr
    have hk := beq_nat hk
    have hby := Nat.le_of_ble_eq_true hby
    have hzl := beq_nat hzl
    have hpos := blt_true.1 hpos
    have hsz := beq_nat hsz
    rw [allR_eq] at hall
    have ht := beq_nat ht
    subst ht
    subst hsz
    have hx := evX_eq x e (obsA n h)
    have hd := evX_eq d e (obsA n h)
    rw [hx] at hsrc
    cases hv : evX d e with
    | ref id sz' off len =>
      rw [hv] at hr2 hd
      obtain ⟨sz'', rows, hi, ho, hr⟩ := arrX_some (show arrX n h id _ = some r from hr2)
      obtain ⟨h1, hr⟩ := gd_some hr
      obtain ⟨h2, hr⟩ := gd_some hr
      obtain ⟨h3, hr⟩ := gd_some hr
      obtain ⟨h4, hr⟩ := gd_some hr
      rw [p5_eq] at hr
      obtain ⟨k1, k2, k3⟩ := pshX_some hr
      have h1 := beq_nat h1
      have h2 := beq_nat h2
      subst h1
      rw [lenX_eq, lenX_eq, takeX_eq, dropX_eq] at h4 k1
      rw [takeX_eq, dropX_eq, obsA_set (Nat.le_of_ble_eq_true h3) hi] at k3
      have hdst : dstRows ⟨envA e, obsA n h⟩ (ty P (ty P t').elem).size (ev ⟨envA e, obsA n h⟩ d) = some ((rows.drop off).take len, ⟨envA e, (obsA n h).set id .gone⟩) := by
        rw [← hd]
        unfold dstRows
        simp only [ho]
        rw [if_pos ⟨trivial, h2⟩]
      simp only [hk, hz, hdst, hsrc]
      refine ⟨⟨trivial, hk2, trivial, hpos, hzl, by simpa using Nat.le_of_ble_eq_true h4, hby, hall⟩, ?_⟩
      rw [k1, k3] at hK
      simpa [obsA_length] using hK
    | lit v =>
      rw [hv] at hr2 hd
      obtain ⟨rfl, hr⟩ := nilX_some (show nilX v _ = some r from hr2)
      obtain ⟨h4, hr⟩ := gd_some hr
      obtain ⟨k1, k2, k3⟩ := pshX_some hr
      rw [lenX_eq] at h4 k1
      have hdst : dstRows ⟨envA e, obsA n h⟩ (ty P (ty P t').elem).size (ev ⟨envA e, obsA n h⟩ d) = some ([], ⟨envA e, obsA n h⟩) := by
        rw [← hd]; rfl
      simp only [hk, hz, hdst, hsrc]
      refine ⟨⟨trivial, hk2, trivial, hpos, hzl, by simpa using Nat.le_of_ble_eq_true h4, hby, hall⟩, ?_⟩
      rw [k1, k3] at hK
      simpa [obsA_length] using hK
    | _ => rw [hv] at hr2; exact absurd hr2 (by intro e; cases e)
  · cases hr
end
end Go.Am
end
