import Derived.Test.YtjbfepcaobnbpaaGreatDoorX10
set_option linter.unusedVariables false
set_option linter.unusedSimpArgs false
set_option linter.unnecessarySimpa false
set_option linter.unusedSectionVars false
section
/- NEW OPERATIONS: comparisons, calculations -/
namespace Go.Am
variable {P : Program} {N : Nat}

theorem ty_ptr {t : TypeId} (h : (ty P t).kind = 7) : ∃ e, P.underlying t = some (.pointer e) := by
  unfold ty at h
  cases hi : P.info? t <;> cases hd : P.underlying t <;> simp [hi, hd] at h ⊢
  rename_i i d
  cases d <;> simp at h ⊢

def ifcT (P : Program) (t : TypeId) : Bool :=
  match P.underlying t with
  | some (.interface _) => true
  | _ => false
theorem ifcT_some {t : TypeId} (h : ifcT P t = true) : ∃ ms, P.underlying t = some (.interface ms) := by
  unfold ifcT at h
  split at h
  · rename_i ms hm; exact ⟨ms, hm⟩
  · cases h
def isC : Operand → Bool
  | .const _ => true
  | _ => false

noncomputable def cmpX (op : BinOp) (b : Bool) : Option Value :=
  @BinOp.rec (fun _ => Option Value) none none none none none none none none none none none (some (.bool b)) (some (.bool (ifX b false true))) none none none none op
theorem cmpX_some {op : BinOp} {b : Bool} {v : Value} (h : cmpX op b = some v) : (op = .eql ∧ v = .bool b) ∨ (op = .neq ∧ v = .bool !b) := by
  cases op with
  | eql => have h : some (Value.bool b) = some v := h; simp only [Option.some.injEq] at h; exact .inl ⟨rfl, h.symm⟩
  | neq => have h : some (Value.bool (ifX b false true)) = some v := h; simp only [Option.some.injEq] at h; right; refine ⟨rfl, ?_⟩; rw [← h]; cases b <;> rfl
  | _ => exact absurd h (by intro e; cases e)

def isShf : BinOp → Bool
  | .shl | .shr => true
  | _ => false
noncomputable def intG (op : BinOp) (k k' : IntKind) (a b : Int) (n : Nat) (h : E5) : Option VS :=
  ifX (isShf op) (opt (shfX op k a b) fun u => some ⟨.lit u, n, h⟩) (ifX (Nat.beq (kIdx k) (kIdx k')) (opt (binX op k a b) fun u => some ⟨.lit u, n, h⟩) none)
def nilLit (v w : Value) (fp fs fi : Option Value) : Option Value :=
  match v, w with
  | .pointer none, .pointer none => fp
  | .slice none 0 0, .slice none 0 0 => fs
  | .nilIface, .nilIface => fi
  | _, _ => none
def nilP (w : Value) {β : Type} (f : Option β) : Option β :=
  match w with
  | .pointer none => f
  | _ => none
noncomputable def intsX (l : List AV) : Option (List Int) :=
  @List.rec AV (fun _ => Option (List Int)) (some []) (fun v _ ih => litK v (fun w => intK w (fun k a => ifX (Nat.beq (kIdx k) (kIdx .i64)) (opt ih fun r => some (a :: r)) none) none) none) l
theorem intsX_some {l : List AV} : ∀ {as : List Int}, intsX l = some as → intsOf l = some as := by
  induction l with
  | nil => intro as h; exact h
  | cons v l ih =>
    intro as h
    have h : litK v (fun w => intK w (fun k a => ifX (Nat.beq (kIdx k) (kIdx .i64)) (opt (intsX l) fun r => some (a :: r)) none) none) none = some as := h
    cases v with
    | lit w =>
      cases w with
      | int k a =>
        rcases ifX_some (show ifX (Nat.beq (kIdx k) (kIdx .i64)) (opt (intsX l) fun r => some (a :: r)) none = some as from h) with ⟨hk, h⟩ | ⟨_, h⟩
        · have := kIdx_inj hk
          subst this
          obtain ⟨r, h1, h2⟩ := opt_some h
          simp only [Option.some.injEq] at h2
          unfold intsOf
          rw [ih h1, ← h2]; rfl
        · cases h
      | _ => exact absurd h (by intro e; cases e)
    | _ => exact absurd h (by intro e; cases e)
noncomputable def ieqL (l : List Int) : List Int → Bool :=
  @List.rec Int (fun _ => List Int → Bool) (fun m => @List.rec Int (fun _ => Bool) true (fun _ _ _ => false) m) (fun a _ ih m => @List.rec Int (fun _ => Bool) false (fun b t _ => ifX (ieqX a b) (ih t) false) m) l
theorem ieqL_eq (l : List Int) : ∀ m, ieqL l m = decide (l = m) := by
  induction l with
  | nil => intro m; cases m <;> rfl
  | cons a l ih =>
    intro m
    cases m with
    | nil => rfl
    | cons b m =>
      show ifX (ieqX a b) (ieqL l m) false = _
      rw [ifX_eq, ih m, ieqX_eq]
      by_cases h : a = b <;> simp [h]

noncomputable def x_bin2 (op : BinOp) (t : TypeId) (x y : Operand) (_ : TypeId) : OpF P := fun T _ e n h =>
  binK (evX x e)
    (fun v => litK (evX y e) (fun w => valK v (fun k a => intK w (fun k' b => intG op k k' a b n h) none)
        (fun a => boolK w (fun b => ifX (Nat.beq (T.ty t).kind 6) (opt (bbX op a b) fun u => some ⟨.lit u, n, h⟩) none) none)
        (fun a => strK w (fun b => opt (strOp op a b) fun u => some ⟨.lit u, n, h⟩) none)
        (opt (nilLit v w (gd (Nat.beq (T.ty t).kind 7) (cmpX op true)) (gd (Nat.beq (T.ty t).kind 1) (cmpX op true)) (gd (bif isC x then true else isC y) (gd (ifcT P t) (cmpX op true)))) fun u => some ⟨.lit u, n, h⟩)) none)
    (fun id _ _ => litK (evX y e) (fun w => nilP w (gd (Nat.beq (T.ty t).kind 7) (livX n h id (opt (cmpX op false) fun u => some ⟨.lit u, n, h⟩) none))) none)
    (fun id sz _ _ => litK (evX y e) (fun w => nilX w (gd (Nat.beq (T.ty t).kind 1) (arrX n h id fun sz' rows => gd (Nat.beq sz' sz) (gd (Nat.blt 0 (lenX rows 0)) (opt (cmpX op false) fun u => some ⟨.lit u, n, h⟩))))) none)
    (fun cs => aggK (evX y e) (fun ds => opt (intsX cs) fun as => opt (intsX ds) fun bs => gd (T.eqt t (lenX as 0)) (gd (Nat.beq (lenX bs 0) (lenX as 0)) (opt (cmpX op (ieqL as bs)) fun u => some ⟨.lit u, n, h⟩))) none)
    none

section
variable {dst : Option Tmp} {tt : TypeId} {p : String} {af : Array Edge} {g : Option (Nat × Bool)} {T : Env P} {call : CallX} {e : E3} {n : Nat} {h : E5} {r : VS}

theorem eq_ptr_nil (w : World) (t e : TypeId) (a : Option Addr) (ht : P.underlying t = some (.pointer e)) : (Op.equal t (.pointer a) (.pointer none)).run P w = .ok a.isNone w := by
  have h : ∀ d : Nat, (Op.equalIn (d + 1) t (.pointer a) (.pointer none)).run P w = .ok a.isNone w := fun d => by
    cases a <;> simp [Op.equalIn, run_underlying ht]
  simp [Op.equal, Op.maxDepth, h 9999]
theorem eqGuard_nilI {op : BinOp} {t : TypeId} {x y : Operand} (hc : (bif isC x then true else isC y) = true) (w : World) : (eqGuard op t x y .nilIface .nilIface).run P w = .ok () w := by
  cases x <;> cases y <;> simp [isC] at hc <;> simp [eqGuard]

theorem x_bin2_ok {op : BinOp} {t : TypeId} {x y : Operand} {u : TypeId} (hr : x_bin2 op t x y u T call e n h = some r) :
    StepOK P N ⟨dst, .binOp op t x y u, tt, p, af, g⟩ ⟨envA e, obsA n h⟩ ((⟨envA e, obsA r.n r.ob⟩ : St).put dst r.v) := by
  have old : x_binOp op t x y u T call e n h = some r → StepOK P N ⟨dst, .binOp op t x y u, tt, p, af, g⟩ ⟨envA e, obsA n h⟩ ((⟨envA e, obsA r.n r.ob⟩ : St).put dst r.v) := fun h => .of_snd (x_binOp_ok (T := T) (call := call) h)
  have fin : ∀ (v : Value), some (⟨.lit v, n, h⟩ : VS) = some r → (∀ (γ : Cx) (a : Act), Sim ⟨envA e, obsA n h⟩ γ → (∀ x, RelV (obsA n h) γ.w γ.Z γ.blk (evX x e) (a.eval x)) → (execOp a.eval ⟨dst, .binOp op t x y u, tt, p, af, g⟩).run P γ.w = .ok (.value v) γ.w) →
      StepOK P N ⟨dst, .binOp op t x y u, tt, p, af, g⟩ ⟨envA e, obsA n h⟩ ((⟨envA e, obsA r.n r.ob⟩ : St).put dst r.v) := by
    intro v hr hh
    obtain ⟨k1, k2, k3⟩ := some_VS hr
    rw [k1, k2, k3]
    exact StepOK.of_val fun γ a hs E => ⟨v, hh γ a hs E, .lit v⟩
  have ex : ∀ (γ : Cx) (a : Act) (v1 v2 v : Value), a.eval x = v1 → a.eval y = v2 → (eqGuard op t x y v1 v2).run P γ.w = .ok () γ.w → (binOp op t v1 v2).run P γ.w = .ok v γ.w →
      (execOp a.eval ⟨dst, .binOp op t x y u, tt, p, af, g⟩).run P γ.w = .ok (.value v) γ.w := by
    intro γ a v1 v2 v e1 e2 h1 h2
    simp only [execOp, e1, e2, Sem.run_bind, h1, h2, Result.andThen_ok, Sem.run_pure]
  unfold x_bin2 at hr
  cases hv : evX x e with
  | lit v =>
    rw [hv] at hr
    cases hw : evX y e with
    | lit w =>
      have hr : valK v (fun k a => intK w (fun k' b => intG op k k' a b n h) none)
        (fun a => boolK w (fun b => ifX (Nat.beq (T.ty t).kind 6) (opt (bbX op a b) fun u => some ⟨.lit u, n, h⟩) none) none)
        (fun a => strK w (fun b => opt (strOp op a b) fun u => some ⟨.lit u, n, h⟩) none)
        (opt (nilLit v w (gd (Nat.beq (T.ty t).kind 7) (cmpX op true)) (gd (Nat.beq (T.ty t).kind 1) (cmpX op true)) (gd (bif isC x then true else isC y) (gd (ifcT P t) (cmpX op true)))) fun u => some (⟨.lit u, n, h⟩ : VS)) = some r := by
        have hr := hr
        rw [hw] at hr
        exact hr
      have hnil : opt (nilLit v w (gd (Nat.beq (T.ty t).kind 7) (cmpX op true)) (gd (Nat.beq (T.ty t).kind 1) (cmpX op true)) (gd (bif isC x then true else isC y) (gd (ifcT P t) (cmpX op true)))) (fun u => some (⟨.lit u, n, h⟩ : VS)) = some r →
          StepOK P N ⟨dst, .binOp op t x y u, tt, p, af, g⟩ ⟨envA e, obsA n h⟩ ((⟨envA e, obsA r.n r.ob⟩ : St).put dst r.v) := by
        intro hr
        obtain ⟨z, hz, hr9⟩ := opt_some hr
        clear hr
        unfold nilLit at hz
        split at hz
        · obtain ⟨hk, hz⟩ := gd_some hz
          rw [T.tyOK] at hk
          obtain ⟨et, ht⟩ := ty_ptr (beq_nat hk)
          refine fin z hr9 fun γ a hs E => ?_
          have h1 := E x; rw [hv] at h1
          have h2 := E y; rw [hw] at h2
          refine ex γ a _ _ z h1.lit_inv h2.lit_inv (by simp [eqGuard]) ?_
          have hq := eq_ptr_nil γ.w t et none ht
          rcases cmpX_some hz with ⟨rfl, rfl⟩ | ⟨rfl, rfl⟩ <;> simp [binOp, hq]
        · obtain ⟨hk, hz⟩ := gd_some hz
          rw [T.tyOK] at hk
          have ht := ty_slice (beq_nat hk)
          refine fin z hr9 fun γ a hs E => ?_
          have h1 := E x; rw [hv] at h1
          have h2 := E y; rw [hw] at h2
          refine ex γ a _ _ z h1.lit_inv h2.lit_inv (by simp [eqGuard]) ?_
          rcases cmpX_some hz with ⟨rfl, rfl⟩ | ⟨rfl, rfl⟩
          · exact eql_any_nil _ _ _ _ _ _ ht
          · exact neq_any_nil _ _ _ _ _ _ ht
        · obtain ⟨hc, hz⟩ := gd_some hz
          obtain ⟨hi, hz⟩ := gd_some hz
          obtain ⟨ms, ht⟩ := ifcT_some hi
          refine fin z hr9 fun γ a hs E => ?_
          have h1 := E x; rw [hv] at h1
          have h2 := E y; rw [hw] at h2
          refine ex γ a _ _ z h1.lit_inv h2.lit_inv ?_ ?_
          · exact eqGuard_nilI hc γ.w
          · have hh : ∀ d : Nat, (Op.equalIn (d + 1) t .nilIface .nilIface).run P γ.w = .ok true γ.w := fun d => by
              simp [Op.equalIn, run_underlying ht]
            have hq : (Op.equal t .nilIface .nilIface).run P γ.w = .ok true γ.w := by
              simp [Op.equal, Op.maxDepth, hh 9999]
            rcases cmpX_some hz with ⟨rfl, rfl⟩ | ⟨rfl, rfl⟩ <;> simp [binOp, hq]
        · cases hz
      cases v with
      | int k a =>
        cases w with
        | int k' b =>
          have hr : intG op k k' a b n h = some r := hr
          unfold intG at hr
          rcases ifX_some hr with ⟨_, hr⟩ | ⟨_, hr⟩
          · obtain ⟨z, hz, hr⟩ := opt_some hr
            refine fin z hr fun γ act hs E => ?_
            have h1 := E x; rw [hv] at h1
            have h2 := E y; rw [hw] at h2
            exact ex γ act _ _ z h1.lit_inv h2.lit_inv (by simp [eqGuard]) (shfX_ok hz)
          · refine old ?_
            unfold x_binOp
            rw [hv, hw]
            exact hr
        | _ => exact absurd hr (by intro e; cases e)
      | bool a =>
        cases w with
        | bool b =>
          refine old ?_
          unfold x_binOp
          rw [hv, hw]
          exact hr
        | _ => exact absurd hr (by intro e; cases e)
      | string a =>
        cases w with
        | string b =>
          obtain ⟨z, hz, hr⟩ := opt_some (show opt (strOp op a b) (fun u => some (⟨.lit u, n, h⟩ : VS)) = some r from hr)
          refine fin z hr fun γ act hs E => ?_
          have h1 := E x; rw [hv] at h1
          have h2 := E y; rw [hw] at h2
          exact ex γ act _ _ z h1.lit_inv h2.lit_inv (by simp [eqGuard]) (strOp_ok hz)
        | _ => exact absurd hr (by intro e; cases e)
      | _ => exact hnil hr
    | _ => rw [hw] at hr; exact absurd hr (by intro e; cases e)
  | ptr id rr c =>
    rw [hv] at hr
    cases hw : evX y e with
    | lit w =>
      have hr : nilP w (gd (Nat.beq (T.ty t).kind 7) (livX n h id (opt (cmpX op false) fun u => some (⟨.lit u, n, h⟩ : VS)) none)) = some r := by
        have hr := hr; rw [hw] at hr; exact hr
      unfold nilP at hr
      split at hr
      · obtain ⟨hk, hr⟩ := gd_some hr
        rw [T.tyOK] at hk
        obtain ⟨et, ht⟩ := ty_ptr (beq_nat hk)
        obtain ⟨hr, o, ho, hg⟩ := livX_some hr
        obtain ⟨z, hz, hr⟩ := opt_some hr
        refine fin z hr fun γ a hs E => ?_
        have h1 := E x; rw [hv] at h1
        have h2 := E y; rw [hw] at h2
        obtain ⟨ad, had⟩ : ∃ ad, a.eval x = .pointer (some ad) := by
          rcases h1.ptr_inv with hd | ⟨_, _, _, _, _, _, hc⟩ | ⟨_, _, _, _, _, _, _, hc⟩
          · rw [ho] at hd; simp at hd; exact absurd hd hg
          · exact ⟨_, hc⟩
          · exact ⟨_, hc⟩
        refine ex γ a _ _ z had h2.lit_inv (by simp [eqGuard]) ?_
        have hq := eq_ptr_nil γ.w t et (some ad) ht
        rcases cmpX_some hz with ⟨rfl, rfl⟩ | ⟨rfl, rfl⟩ <;> simp [binOp, hq]
      · cases hr
    | _ => rw [hw] at hr; exact absurd hr (by intro e; cases e)
  | ref id sz off len =>
    rw [hv] at hr
    cases hw : evX y e with
    | lit w =>
      have hr : nilX w (gd (Nat.beq (T.ty t).kind 1) (arrX n h id fun sz' rows => gd (Nat.beq sz' sz) (gd (Nat.blt 0 (lenX rows 0)) (opt (cmpX op false) fun u => some (⟨.lit u, n, h⟩ : VS))))) = some r := by
        have hr := hr; rw [hw] at hr; exact hr
      obtain ⟨rfl, hr⟩ := nilX_some hr
      obtain ⟨hk, hr⟩ := gd_some hr
      rw [T.tyOK] at hk
      have ht := ty_slice (beq_nat hk)
      obtain ⟨sz', rows, _, ho, hr⟩ := arrX_some hr
      obtain ⟨_, hr⟩ := gd_some hr
      obtain ⟨hl, hr⟩ := gd_some hr
      obtain ⟨z, hz, hr⟩ := opt_some hr
      rw [lenX_eq] at hl
      have hl := blt_true.1 hl
      refine fin z hr fun γ a hs E => ?_
      have h1 := E x; rw [hv] at h1
      have h2 := E y; rw [hw] at h2
      obtain ⟨ad, l, c, had⟩ : ∃ ad l c, a.eval x = .slice (some ad) l c := by
        rcases h1.ref_inv with hd | ⟨hd, _⟩ | ⟨_, _, _, _, _, _, _, _, hc⟩ | ⟨_, _, _, _, _, _, _, _, _, _, hc⟩
        · rw [ho] at hd; simp at hd
        · rw [ho] at hd; simp at hd; rw [hd.2] at hl; simp at hl
        · exact ⟨_, _, _, hc⟩
        · exact ⟨_, _, _, hc⟩
      refine ex γ a _ _ z had h2.lit_inv (by simp [eqGuard]) ?_
      rcases cmpX_some hz with ⟨rfl, rfl⟩ | ⟨rfl, rfl⟩
      · exact eql_some_nil _ _ _ _ _ ht
      · exact neq_some_nil _ _ _ _ _ ht
    | _ => rw [hw] at hr; exact absurd hr (by intro e; cases e)
  | agg cs =>
    rw [hv] at hr
    cases hw : evX y e with
    | agg ds =>
      have hr : (opt (intsX cs) fun as => opt (intsX ds) fun bs => gd (T.eqt t (lenX as 0)) (gd (Nat.beq (lenX bs 0) (lenX as 0)) (opt (cmpX op (ieqL as bs)) fun u => some (⟨.lit u, n, h⟩ : VS)))) = some r := by
        have hr := hr; rw [hw] at hr; exact hr
      obtain ⟨as, ha, hr⟩ := opt_some hr
      obtain ⟨bs, hb, hr⟩ := opt_some hr
      obtain ⟨hq, hr⟩ := gd_some hr
      obtain ⟨hl, hr⟩ := gd_some hr
      obtain ⟨z, hz, hr⟩ := opt_some hr
      have ha := intsX_some ha
      have hb := intsX_some hb
      rw [lenX_eq] at hq
      rw [lenX_eq, lenX_eq] at hl
      have hl := beq_nat hl
      obtain ⟨q1, q2⟩ := T.eqOK t _ hq
      rw [ieqL_eq] at hz
      obtain ⟨k1, k2, k3⟩ := some_VS hr
      rw [k1, k2, k3]
      refine StepOK.of_opG (opG_of_opW ?_)
      unfold opW
      have hx := evX_eq x e (obsA n h)
      have hy := evX_eq y e (obsA n h)
      simp only [← hx, ← hy, hv, hw, ha, hb]
      refine ⟨⟨by simpa using q1, by simpa using hl, q2⟩, ?_⟩
      rcases cmpX_some hz with ⟨rfl, rfl⟩ | ⟨rfl, rfl⟩ <;> rfl
    | _ => rw [hw] at hr; exact absurd hr (by intro e; cases e)
  | _ => rw [hv] at hr; exact absurd hr (by intro e; cases e)
end
end Go.Am
end
section
/- NEW OPERATIONS: lengths, indexing and slicing of strings, the greatest of three, functions with arguments, appending nil, maps -/
namespace Go.Am
variable {P : Program} {N : Nat}

theorem ty_string {t : TypeId} (h : (ty P t).kind = 4) : P.underlying t = some .string := by
  unfold ty at h
  cases hi : P.info? t <;> cases hd : P.underlying t <;> simp [hi, hd] at h ⊢
  rename_i i d
  cases d <;> simp at h ⊢

def strV (v : Value) {β : Type} (f : ByteArray → Option β) (d : Option β) : Option β :=
  match v with
  | .string s => f s
  | _ => d

noncomputable def lenB2 (x : Operand) (t : TypeId) : OpF P := fun T _ e n h =>
  lenK (evX x e) (fun id sz _ len => gd (Nat.beq (T.ty t).kind 1) (arrX n h id fun sz' _ => gd (Nat.beq sz' sz) (some ⟨.lit (.int .i64 (Int.ofNat len)), n, h⟩)))
    (fun _ rows => gd (Nat.beq (T.ty t).kind 1) (some ⟨.lit (.int .i64 (Int.ofNat (lenX rows 0))), n, h⟩))
    (fun id => gd (Nat.beq (T.ty t).kind 8) (obX n h id (fun _ => none) (fun _ _ => none) (fun _ L => some ⟨.lit (.int .i64 (Int.ofNat L.length)), n, h⟩) none))
    (fun v => strV v (fun s => gd (Nat.beq (T.ty t).kind 4) (some ⟨.lit (.int .i64 (Int.ofNat (lenX (byB s) 0))), n, h⟩)) (nilX v (gd (Nat.beq (T.ty t).kind 1) (some ⟨.lit (.int .i64 0), n, h⟩)))) none
noncomputable def x_len2 (args : Array Operand) (ats : Array TypeId) : OpF P := fun T c e n h =>
  match args.toList, ats.toList with
  | [x], [t] => lenB2 x t T c e n h
  | _, _ => none

noncomputable def mm3 (x y z : Operand) : OpF P := fun _ _ e n h =>
  litK (evX x e) (fun v => litK (evX y e) (fun w => litK (evX z e) (fun u => intK v (fun k a => intK w (fun k' b => intK u (fun k'' c => gd (Nat.beq (kIdx k) (kIdx k')) (gd (Nat.beq (kIdx k) (kIdx k''))
    (some ⟨.lit (.int k (ifX (ileX (ifX (ileX a b) b a) c) c (ifX (ileX a b) b a))), n, h⟩))) none) none) none) none) none) none
noncomputable def x_max2 (args : Array Operand) : OpF P := fun T c e n h =>
  match args.toList with
  | [x, y] => mm (fun a b => ifX (ileX a b) b a) x y T c e n h
  | [x, y, z] => mm3 x y z T c e n h
  | _ => none

noncomputable def x_index (t : TypeId) (x i : Operand) : OpF P := fun T _ e n h =>
  litK (evX x e) (fun v => strK v (fun s => natX (evX i e) (fun _ j => opt (nthX (byB s) j) fun b => gd (Nat.beq (T.ty t).kind 4) (some ⟨.lit (.int .u8 (Int.ofNat b.toNat)), n, h⟩)) none) none) none

noncomputable def x_slice2 (t : TypeId) (x : Operand) (lo hi mx : Option Operand) : OpF P := fun T c e n h =>
  seqK (evX x e) (fun _ _ _ _ => x_slice t x lo hi mx T c e n h) (fun _ _ => x_slice t x lo hi mx T c e n h)
    (fun v => strK v (fun s => gd (Nat.beq (T.ty t).kind 4) (gd mx.isNone (loX e lo 0 fun l => loX e hi (lenX (byB s) 0) fun u => gd (Nat.ble l u) (gd (Nat.ble u (lenX (byB s) 0)) (some ⟨.lit (.string (mkB (dropX (takeX (byB s) u) l))), n, h⟩))))) none) none

noncomputable def x_makeFunc2 (fn : Fn) (first captured : Array Operand) : OpF P := fun _ _ e n h =>
  match fn with
  | .func f => ifX (Nat.beq first.size 0) (some ⟨.fn f (captured.toList.map fun x => evX x e), n, h⟩) (gd (Nat.beq captured.size 0) (some ⟨.bfn f (first.toList.map fun x => evX x e), n, h⟩))
  | _ => none

noncomputable def x_makeMap (t : TypeId) (r : Option Operand) : OpF P := fun T _ _ n h => gd r.isNone (gd (Nat.beq (T.ty t).kind 8) (pshX n h (.mp (kAg P t) []) (.mref n)))

section
variable {dst : Option Tmp} {tt : TypeId} {p : String} {af : Array Edge} {g : Option (Nat × Bool)} {T : Env P} {call : CallX} {e : E3} {n : Nat} {h : E5} {r : VS}

theorem list_arr {α : Type} {a : Array α} {l : List α} (h : a.toList = l) : a = l.toArray := by rw [← h]

theorem x_len2_ok {args : Array Operand} {ats : Array TypeId} (hr : x_len2 args ats T call e n h = some r) :
    StepOK P N ⟨dst, .call { callee := .builtin .len, args := args, argTypes := ats }, tt, p, af, g⟩ ⟨envA e, obsA n h⟩ ((⟨envA e, obsA r.n r.ob⟩ : St).put dst r.v) := by
  unfold x_len2 at hr
  split at hr
  · rename_i x t hxa hta
    have old : lenB x t T call e n h = some r → StepOK P N ⟨dst, .call { callee := .builtin .len, args := args, argTypes := ats }, tt, p, af, g⟩ ⟨envA e, obsA n h⟩ ((⟨envA e, obsA r.n r.ob⟩ : St).put dst r.v) :=
      fun h => .of_snd (x_len_ok (T := T) (call := call) (by unfold x_len; rw [hxa, hta]; exact h))
    unfold lenB2 at hr
    cases hv : evX x e with
    | lit v =>
      have hr0 := hr
      rw [hv] at hr
      have hr : strV v (fun s => gd (Nat.beq (T.ty t).kind 4) (some (⟨.lit (.int .i64 (Int.ofNat (lenX (byB s) 0))), n, h⟩ : VS))) (nilX v (gd (Nat.beq (T.ty t).kind 1) (some ⟨.lit (.int .i64 0), n, h⟩))) = some r := hr
      unfold strV at hr
      split at hr
      · rename_i s
        obtain ⟨hk, hr⟩ := gd_some hr
        rw [T.tyOK] at hk
        have ht := ty_string (beq_nat hk)
        obtain ⟨k1, k2, k3⟩ := some_VS hr
        rw [k1, k2, k3, list_arr hxa, list_arr hta]
        refine StepOK.of_val fun γ a hs E => ?_
        have h1 := E x; rw [hv] at h1
        refine ⟨_, ?_, .lit _⟩
        simp [execOp, resolve, invoke, builtin, Builtin.len_, run_underlying ht, h1.lit_inv, goInt, str_size]
      · refine old ?_
        unfold lenB
        rw [hv]
        exact hr
    | _ =>
      refine old ?_
      unfold lenB
      rw [hv] at hr ⊢
      exact hr
  · cases hr

theorem x_max2_ok {args : Array Operand} {ats : Array TypeId} (hr : x_max2 args T call e n h = some r) :
    StepOK P N ⟨dst, .call { callee := .builtin .max, args := args, argTypes := ats }, tt, p, af, g⟩ ⟨envA e, obsA n h⟩ ((⟨envA e, obsA r.n r.ob⟩ : St).put dst r.v) := by
  unfold x_max2 at hr
  split at hr
  · rename_i x y hxa
    exact .of_snd (x_max_ok (T := T) (call := call) (by unfold x_max; rw [hxa]; exact hr))
  · rename_i x y z hxa
    unfold mm3 at hr
    cases hv : evX x e with
    | lit v =>
      cases hw : evX y e with
      | lit w =>
        cases hu : evX z e with
        | lit u =>
          rw [hv, hw, hu] at hr
          cases v with
          | int k a =>
            cases w with
            | int k' b =>
              cases u with
              | int k'' c =>
                obtain ⟨h1, hr1⟩ := gd_some (show gd (Nat.beq (kIdx k) (kIdx k')) _ = some r from hr)
                obtain ⟨h2, hr2⟩ := gd_some hr1
                have h1 := kIdx_inj h1
                have h2 := kIdx_inj h2
                subst h1; subst h2
                obtain ⟨k1, k2, k3⟩ := some_VS hr2
                rw [k1, k2, k3, list_arr hxa]
                refine StepOK.of_val fun γ act hs E => ?_
                have e1 := E x; rw [hv] at e1
                have e2 := E y; rw [hw] at e2
                have e3 := E z; rw [hu] at e3
                refine ⟨_, ?_, .lit _⟩
                have m2 : ∀ a b : Int, (if b > a then b else a) = ifX (ileX a b) b a := by
                  intro a b
                  rw [ifX_eq, ileX_eq]
                  by_cases h : b > a
                  · have : a ≤ b := by omega
                    simp [h, this]
                  · by_cases h2 : a ≤ b
                    · have : a = b := by omega
                      subst this; simp
                    · simp [h, h2]
                have e4 : ifX (ileX (ifX (ileX a b) b a) c) c (ifX (ileX a b) b a) = (if c > (if b > a then b else a) then c else (if b > a then b else a)) := by rw [m2, m2]
                rw [e4]
                simp [execOp, resolve, invoke, builtin, Builtin.max_, Builtin.max2, e1.lit_inv, e2.lit_inv, e3.lit_inv]
              | _ => exact absurd hr (by intro e; cases e)
            | _ => exact absurd hr (by intro e; cases e)
          | _ => exact absurd hr (by intro e; cases e)
        | _ => rw [hv, hw, hu] at hr; exact absurd hr (by intro e; cases e)
      | _ => rw [hv, hw] at hr; exact absurd hr (by intro e; cases e)
    | _ => rw [hv] at hr; exact absurd hr (by intro e; cases e)
  · cases hr

theorem strK_some {β : Type} {v : Value} {k : ByteArray → Option β} {b : β} (h : strK v k none = some b) : ∃ s, v = .string s ∧ k s = some b := by
  cases v with
  | string s => exact ⟨s, rfl, h⟩
  | _ => exact absurd h (by intro e; cases e)
theorem litK_some {β : Type} {v : AV} {k : Value → Option β} {b : β} (h : litK v k none = some b) : ∃ s, v = .lit s ∧ k s = some b := by
  cases v with
  | lit s => exact ⟨s, rfl, h⟩
  | _ => exact absurd h (by intro e; cases e)

theorem x_index_ok {t : TypeId} {x i : Operand} (hr : x_index t x i T call e n h = some r) : SndX P ⟨dst, .index t x i, tt, p, af, g⟩ e n h r := by
  intro K hK
  unfold x_index at hr
  obtain ⟨v, hv, hr⟩ := litK_some hr
  obtain ⟨s, rfl, hr⟩ := strK_some hr
  obtain ⟨kk, j, hi, hr⟩ := natX_some hr
  obtain ⟨b, hb, hr⟩ := opt_some hr
  obtain ⟨hk, hr⟩ := gd_some hr
  rw [T.tyOK] at hk
  obtain ⟨k1, k2, k3⟩ := some_VS hr
  rw [nthX_eq] at hb
  have hlt := (List.getElem?_eq_some_iff.1 hb).1
  rw [evX_eq x e (obsA n h)] at hv
  rw [evX_eq i e (obsA n h)] at hi
  unfold opW
  simp only [hv, hi]
  have hsz : s.size = (byB s).length := by rw [str_size, lenX_eq]; simp
  refine ⟨⟨ty_string (beq_nat hk), Int.natCast_nonneg _, by show (j : Int) < s.size; omega⟩, ?_⟩
  have e1 : strB s j = Int.ofNat b.toNat := by
    unfold strB
    have : s[j]? = some b := by
      have h2 : j < s.size := by omega
      rw [getElem?_pos s j h2]
      have : s[j] = s.data.toList[j]'(by rw [← Lib.size_eq]; exact h2) := by rfl
      rw [this]
      have h3 := (List.getElem?_eq_some_iff.1 hb).2
      rw [← h3]; rfl
    rw [this]; rfl
  rw [k1, k2, k3] at hK
  have e2 : (Int.ofNat j).toNat = j := rfl
  rw [e2, e1]; exact hK

theorem x_slice2_ok {t : TypeId} {x : Operand} {lo hi mx : Option Operand} (hr : x_slice2 t x lo hi mx T call e n h = some r) :
    StepOK P N ⟨dst, .slice t x lo hi mx, tt, p, af, g⟩ ⟨envA e, obsA n h⟩ ((⟨envA e, obsA r.n r.ob⟩ : St).put dst r.v) := by
  have old : x_slice t x lo hi mx T call e n h = some r → StepOK P N ⟨dst, .slice t x lo hi mx, tt, p, af, g⟩ ⟨envA e, obsA n h⟩ ((⟨envA e, obsA r.n r.ob⟩ : St).put dst r.v) := fun h => .of_snd (x_slice_ok (T := T) (call := call) h)
  unfold x_slice2 at hr
  cases hv : evX x e with
  | ref _ _ _ _ => rw [hv] at hr; exact old hr
  | tree _ _ => rw [hv] at hr; exact old hr
  | lit v =>
    rw [hv] at hr
    obtain ⟨s, rfl, hr1⟩ := strK_some (show strK v _ none = some r from hr)
    obtain ⟨hk, hr2⟩ := gd_some hr1
    obtain ⟨hm, hr3⟩ := gd_some hr2
    have hm : mx = none := by simpa using hm
    clear old
    subst hm
    rw [T.tyOK] at hk
    have ht := ty_string (beq_nat hk)
    obtain ⟨l, hr4, hl⟩ := loX_some (obsA n h) hr3
    obtain ⟨u, hr5, hu⟩ := loX_some (obsA n h) hr4
    obtain ⟨h3, hr6⟩ := gd_some hr5
    obtain ⟨h4, hr7⟩ := gd_some hr6
    obtain ⟨k1, k2, k3⟩ := some_VS hr7
    have h3 := Nat.le_of_ble_eq_true h3
    have h4 := Nat.le_of_ble_eq_true h4
    rw [← str_size] at h4 hu
    rw [k1, k2, k3, ← str_sub]
    refine StepOK.of_val fun γ a hs E => ⟨_, ?_, .lit _⟩
    have e1 := E x; rw [hv] at e1
    have E2 : ∀ y kk (m : Nat), ev ⟨envA e, obsA n h⟩ y = .lit (.int kk (Int.ofNat m)) → a.eval y = .int kk (m : Int) := fun y kk m hy => by
      have := E y
      rw [evX_eq y e (obsA n h), hy] at this
      exact this.lit_inv
    have hb : ∀ (k : IntKind) (m y : Nat) (c : BoundsCode), m ≤ y → (Instr.sliceBound (.int k (m : Int)) y c).run P γ.w = .ok m γ.w := by
      intro k m y c hmy
      have h1 : (0 : Int) ≤ (m : Int) ∧ (m : Int) ≤ (y : Int) := ⟨by omega, by omega⟩
      simp [Instr.sliceBound, asIntOf, h1, hmy]
    rcases hl with ⟨rfl, rfl⟩ | ⟨kk, y, rfl, hy⟩ <;> rcases hu with ⟨rfl, rfl⟩ | ⟨kk', y', rfl, hy'⟩
    · simp [execOp, e1.lit_inv, Instr.sliceAt, Instr.slice, run_underlying ht, Instr.sliceBounds]
    · simp [execOp, e1.lit_inv, Instr.sliceAt, Instr.slice, run_underlying ht, Instr.sliceBounds, E2 y' kk' _ hy', hb kk' _ _ _ h4]
    · simp [execOp, e1.lit_inv, Instr.sliceAt, Instr.slice, run_underlying ht, Instr.sliceBounds, E2 y kk _ hy, hb kk _ _ _ h3]
    · simp [execOp, e1.lit_inv, Instr.sliceAt, Instr.slice, run_underlying ht, Instr.sliceBounds, E2 y kk _ hy, E2 y' kk' _ hy', hb kk _ _ _ h3, hb kk' _ _ _ h4]
  | _ => rw [hv] at hr; exact absurd hr (by intro e; cases e)

theorem x_makeFunc2_ok {fn : Fn} {first captured : Array Operand} (hr : x_makeFunc2 fn first captured T call e n h = some r) :
    StepOK P N ⟨dst, .makeFunc fn first captured, tt, p, af, g⟩ ⟨envA e, obsA n h⟩ ((⟨envA e, obsA r.n r.ob⟩ : St).put dst r.v) := by
  unfold x_makeFunc2 at hr
  cases fn with
  | func f =>
    rcases ifX_some (show ifX (Nat.beq first.size 0) _ _ = some r from hr) with ⟨h1, hr⟩ | ⟨_, hr⟩
    · exact .of_snd (x_makeFunc_ok (T := T) (call := call) (by unfold x_makeFunc; simp only; rw [h1]; exact hr))
    · obtain ⟨h1, hr⟩ := gd_some hr
      obtain ⟨k1, k2, k3⟩ := some_VS hr
      rw [k1, k2, k3]
      have hc := Array.eq_empty_of_size_eq_zero (beq_nat h1)
      subst hc
      refine StepOK.of_val fun γ a hs E => ⟨.func (.func f) (first.map a.eval) #[], by simp [execOp, Instr.makeFunc], ?_⟩
      refine .bfn f _ _ (by simp) (fun j x hj => ?_)
      simp only [List.getElem?_map, Option.map_eq_some_iff, Array.getElem?_toList] at hj
      obtain ⟨y, hy, rfl⟩ := hj
      have : (first.map a.eval).getD j Go.undef = a.eval y := by simp [Array.getD_eq_getD_getElem?, hy]
      rw [this]; exact E y
  | _ => cases hr

theorem x_makeMap_ok {t : TypeId} {o : Option Operand} (hr : x_makeMap t o T call e n h = some r) : SndX P ⟨dst, .makeMap t o, tt, p, af, g⟩ e n h r := by
  intro K hK
  unfold x_makeMap at hr
  obtain ⟨h1, hr⟩ := gd_some hr
  obtain ⟨h2, hr⟩ := gd_some hr
  obtain ⟨k1, k2, k3⟩ := pshX_some hr
  rw [T.tyOK] at h2
  unfold opW
  refine ⟨⟨by simpa using h1, beq_nat h2⟩, ?_⟩
  rw [k1, k3] at hK
  simpa [obsA_length] using hK
end
end Go.Am
end
