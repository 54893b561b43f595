import Derived.Test.YtjbfepcaobnbpaaGreatDoorX15
import Derived.Scope
set_option linter.unusedVariables false
set_option linter.unusedSimpArgs false
set_option linter.unnecessarySimpa false
set_option linter.unusedSectionVars false
section
/- CODE, COMPUTED -/
namespace Go.Am
variable {P : Program} {N n0 : Nat}

abbrev RX := Option (Exit × YS)
noncomputable def exK (e : Exit) : YS → (YS → RX) → RX :=
  @Exit.rec (fun _ => YS → (YS → RX) → RX) (fun s k => k s) (fun i s _ => some (.exit i, s)) (fun i s _ => some (.goto i, s)) (fun s _ => some (.ret, s)) (fun _ _ _ => none) (fun _ _ => none) e
noncomputable def seqR (r : RX) (k : YS → RX) : RX := @Option.rec (Exit × YS) (fun _ => (YS → RX) → RX) (fun _ => none) (fun p k => @Prod.rec Exit YS (fun _ => RX) (fun x s => exK x s k) p) r k
noncomputable def regR (r : Option YS) : RX := @Option.rec YS (fun _ => RX) none (fun s => some (.normal, s)) r
noncomputable def blE (e : Exit) : Nat → YS → RX :=
  @Exit.rec (fun _ => Nat → YS → RX) (fun _ s => some (.normal, s)) (fun i id s => ifX (Nat.beq i id) (some (.normal, s)) (some (.exit i, s))) (fun i _ s => some (.goto i, s)) (fun _ s => some (.ret, s)) (fun _ _ _ => none) (fun _ _ => none) e
noncomputable def blkR (r : RX) (id : Nat) : RX := @Option.rec (Exit × YS) (fun _ => Nat → RX) (fun _ => none) (fun p id => @Prod.rec Exit YS (fun _ => RX) (fun x s => blE x id s) p) r id
noncomputable def scoE (e : Exit) : YS → RX :=
  @Exit.rec (fun _ => YS → RX) (fun s => some (.normal, s)) (fun i s => some (.exit i, s)) (fun _ _ => none) (fun s => some (.ret, s)) (fun _ _ => none) (fun _ => none) e
noncomputable def scoR (r : RX) : RX := @Option.rec (Exit × YS) (fun _ => RX) none (fun p => @Prod.rec Exit YS (fun _ => RX) (fun x s => scoE x s) p) r
noncomputable def lopX (f : YS → RX) (n : Nat) : YS → RX := @Nat.rec (fun _ => YS → RX) (fun _ => none) (fun _ ih s => seqR (f s) ih) n

theorem seqR_some {r : RX} {k : YS → RX} {e : Exit} {s' : YS} (h : seqR r k = some (e, s')) : (∃ s, r = some (.normal, s) ∧ k s = some (e, s')) ∨ (e ≠ .normal ∧ r = some (e, s')) := by
  cases r with
  | none => exact absurd h (by intro e; cases e)
  | some p =>
    obtain ⟨x, s⟩ := p
    cases x with
    | normal => exact .inl ⟨s, rfl, h⟩
    | exit i => right; have h : some (Exit.exit i, s) = some (e, s') := h; simp only [Option.some.injEq, Prod.mk.injEq] at h; obtain ⟨rfl, rfl⟩ := h; exact ⟨by simp, rfl⟩
    | goto i => right; have h : some (Exit.goto i, s) = some (e, s') := h; simp only [Option.some.injEq, Prod.mk.injEq] at h; obtain ⟨rfl, rfl⟩ := h; exact ⟨by simp, rfl⟩
    | ret => right; have h : some (Exit.ret, s) = some (e, s') := h; simp only [Option.some.injEq, Prod.mk.injEq] at h; obtain ⟨rfl, rfl⟩ := h; exact ⟨by simp, rfl⟩
    | panic c => exact absurd h (by intro e; cases e)
    | outgrown => exact absurd h (by intro e; cases e)

abbrev XF (P : Program) := Env P → CallX → Nat → YS → RX
noncomputable def truX {R : Type} (v : AV) (k : Bool → R) (d : R) : R := litK v (fun w => boolK w k d) d
noncomputable def execX (c : Code) : XF P :=
  @Code.rec (fun _ => XF P) (fun _ _ _ s => some (.normal, s)) (fun _ ops draw T call N s => ifX (dstOK N ops) (regR (ifX draw (drwX T call ops s) (ysK s (opsX T call ops ops.toList)))) none) (fun _ _ ia ib T call N s => seqR (ia T call N s) (ib T call N))
    (fun c _ _ ia ib T call N s => truX (evX c s.env) (fun b => ifX b (ia T call N s) (ib T call N s)) none) (fun id _ ih T call N s => blkR (ih T call N s) id) (fun _ ih T call N s => lopX (ih T call N) 100000 s)
    (fun _ _ _ _ _ _ _ _ _ _ => none) (fun id _ _ _ s => some (.exit id, s)) (fun _ ih T call N s => scoR (ih T call N s)) (fun _ _ _ _ s => some (.normal, s)) (fun _ _ _ _ _ => none) (fun _ _ _ s => some (.ret, s)) (fun _ _ _ _ _ => none) c
theorem truX_some {β : Type} {v : AV} {k : Bool → Option β} {b : β} (h : truX v k none = some b) : ∃ t, v = .lit (.bool t) ∧ k t = some b := by
  unfold truX at h
  cases v with
  | lit w =>
    cases w with
    | bool t => exact ⟨t, rfl, h⟩
    | _ => exact absurd h (by intro e; cases e)
  | _ => exact absurd h (by intro e; cases e)

theorem execX_ok {T : Env P} {call : CallX} (hc : CallOK P call) : ∀ (c : Code) (s s' : YS) (e : Exit), execX c T call N s = some (e, s') → ∀ Q : Exit → St → Prop, Q e s'.st → W P N n0 c Q s.st := by
  intro c
  induction c with
  | skip =>
    intro s s' e h Q hQ
    have h : some (Exit.normal, s) = some (e, s') := h
    simp only [Option.some.injEq, Prod.mk.injEq] at h
    obtain ⟨rfl, rfl⟩ := h
    exact W_skip hQ
  | region id ops draw =>
    intro s s' e h Q hQ
    rcases ifX_some (show ifX (dstOK N ops) (regR (ifX draw (drwX T call ops s) (ysK s (opsX T call ops ops.toList)))) none = some (e, s') from h) with ⟨hd, h⟩ | ⟨_, h⟩
    · cases hr : ifX draw (drwX T call ops s) (ysK s (opsX T call ops ops.toList)) with
      | none => rw [hr] at h; cases h
      | some s1 =>
        rw [hr] at h
        have h : some (Exit.normal, s1) = some (e, s') := h
        simp only [Option.some.injEq, Prod.mk.injEq] at h
        obtain ⟨rfl, rfl⟩ := h
        cases draw with
        | true => exact W_drwX T.mix hc hd hr hQ
        | false =>
          have hr : ysK s (opsX T call ops ops.toList) = some s1 := hr
          rw [ysK_eq] at hr
          exact W_regionR hd (opsX_ok hc _ _ _ _ _ hr) hQ
    · cases h
  | seq a b iha ihb =>
    intro s s' e h Q hQ
    rcases seqR_some (show seqR (execX a T call N s) (execX b T call N) = some (e, s') from h) with ⟨s1, h1, h2⟩ | ⟨hne, h1⟩
    · exact W_seq (iha s s1 .normal h1 _ (ihb s1 s' e h2 Q hQ))
    · refine W_seq (iha s s' e h1 _ ?_)
      cases e <;> first | exact absurd rfl hne | exact hQ
  | cond c a b iha ihb =>
    intro s s' e h Q hQ
    obtain ⟨t, ht, h⟩ := truX_some (show truX (evX c s.env) (fun b' => ifX b' (execX a T call N s) (execX b T call N s)) none = some (e, s') from h)
    rw [evX_eq c s.env (obsA s.n s.ob)] at ht
    refine W_cond ht (fun hb => ?_) (fun hb => ?_)
    · subst hb; exact iha s s' e h Q hQ
    · subst hb; exact ihb s s' e h Q hQ
  | exit id =>
    intro s s' e h Q hQ
    have h : some (Exit.exit id, s) = some (e, s') := h
    simp only [Option.some.injEq, Prod.mk.injEq] at h
    obtain ⟨rfl, rfl⟩ := h
    exact W_exit hQ
  | label l =>
    intro s s' e h Q hQ
    have h : some (Exit.normal, s) = some (e, s') := h
    simp only [Option.some.injEq, Prod.mk.injEq] at h
    obtain ⟨rfl, rfl⟩ := h
    exact W_label hQ
  | ret =>
    intro s s' e h Q hQ
    have h : some (Exit.ret, s) = some (e, s') := h
    simp only [Option.some.injEq, Prod.mk.injEq] at h
    obtain ⟨rfl, rfl⟩ := h
    exact W_ret hQ
  | block id c ih =>
    intro s s' e h Q hQ
    have h : blkR (execX c T call N s) id = some (e, s') := h
    cases hr : execX c T call N s with
    | none => rw [hr] at h; exact absurd h (by intro e; cases e)
    | some q =>
      obtain ⟨x, s1⟩ := q
      rw [hr] at h
      refine W_block (ih s s1 x hr _ ?_)
      cases x with
      | normal =>
        have h : some (Exit.normal, s1) = some (e, s') := h
        simp only [Option.some.injEq, Prod.mk.injEq] at h
        obtain ⟨rfl, rfl⟩ := h
        exact hQ
      | exit i =>
        show if i = id then Q .normal s1.st else Q (.exit i) s1.st
        rcases ifX_some (show ifX (Nat.beq i id) (some (Exit.normal, s1)) (some (Exit.exit i, s1)) = some (e, s') from h) with ⟨hb, h⟩ | ⟨hb, h⟩
        · simp only [Option.some.injEq, Prod.mk.injEq] at h
          obtain ⟨rfl, rfl⟩ := h
          rw [if_pos (beq_nat hb)]; exact hQ
        · simp only [Option.some.injEq, Prod.mk.injEq] at h
          obtain ⟨rfl, rfl⟩ := h
          rw [if_neg (by intro e; subst e; simp at hb)]; exact hQ
      | goto l =>
        have h : some (Exit.goto l, s1) = some (e, s') := h
        simp only [Option.some.injEq, Prod.mk.injEq] at h
        obtain ⟨rfl, rfl⟩ := h
        exact hQ
      | ret =>
        have h : some (Exit.ret, s1) = some (e, s') := h
        simp only [Option.some.injEq, Prod.mk.injEq] at h
        obtain ⟨rfl, rfl⟩ := h
        exact hQ
      | panic c => exact absurd h (by intro e; cases e)
      | outgrown => exact absurd h (by intro e; cases e)
  | loop c ih =>
    intro s s' e h Q hQ
    refine W_loop (fun m σ => ∃ s1 : YS, σ = s1.st ∧ lopX (execX c T call N) m s1 = some (e, s')) 100000 ⟨s, rfl, h⟩ ?_
    rintro m σ ⟨s1, rfl, hm⟩
    cases m with
    | zero => exact absurd hm (by intro e; cases e)
    | succ m =>
      rcases seqR_some (show seqR (execX c T call N s1) (lopX (execX c T call N) m) = some (e, s') from hm) with ⟨s2, h1, h2⟩ | ⟨hne, h1⟩
      · exact ih s1 s2 .normal h1 _ ⟨m, Nat.lt_succ_self m, s2, rfl, h2⟩
      · refine ih s1 s' e h1 _ ?_
        cases e <;> first | exact absurd rfl hne | exact hQ
  | scope c ih =>
    intro s s' e h Q hQ
    have h : scoR (execX c T call N s) = some (e, s') := h
    cases hr : execX c T call N s with
    | none => rw [hr] at h; exact absurd h (by intro e; cases e)
    | some q =>
      obtain ⟨x, s1⟩ := q
      rw [hr] at h
      have fin : ∀ y, (y = .normal ∨ (∃ i, y = .exit i) ∨ y = .ret) → x = y → some (y, s1) = some (e, s') → W P N n0 (.scope c) Q s.st := by
        intro y hy hx h1
        simp only [Option.some.injEq, Prod.mk.injEq] at h1
        obtain ⟨h1, h2⟩ := h1
        intro os γ0 a w hn hok
        refine wp_scope_straight ?_
        have := ih s s1 x hr (fun e' σ => e' = y ∧ Q y σ) ⟨hx, by rw [h2, h1]; exact hQ⟩ os γ0 a w hn hok
        refine wp_mono this ?_
        rintro e' a' w' ⟨σ', ⟨he, hq⟩, hok'⟩
        subst he
        rcases hy with rfl | ⟨i, rfl⟩ | rfl <;> exact ⟨σ', hq, hok'⟩
      cases x with
      | normal => exact fin _ (.inl rfl) rfl h
      | exit i => exact fin _ (.inr (.inl ⟨i, rfl⟩)) rfl h
      | ret => exact fin _ (.inr (.inr rfl)) rfl h
      | goto l => exact absurd h (by intro e; cases e)
      | panic c => exact absurd h (by intro e; cases e)
      | outgrown => exact absurd h (by intro e; cases e)
  | _ => intro s s' e h Q hQ; exact absurd h (by intro e; cases e)
end Go.Am
end
section
/- RESULTS AND ARGUMENTS -/
namespace Go.Am
variable {P : Program} {N n0 : Nat}

noncomputable def ldV (t : Ty) (cells : List AV) (c : Nat) (n : Nat) (h : E5) : Option AV := opt (ldX t cells c n h) fun r => some r.v
noncomputable def resX (T : Env P) (s : YS) : List ResultVar → Option (List AV)
  | [] => some []
  | .tmp t :: r => opt (resX T s r) fun vs => some (evX (.tmp t) s.env :: vs)
  | .cell a t :: r =>
    match evX (.tmp a) s.env with
    | .ptr id rr c => opt (rowX s.n s.ob id rr) fun row => opt (ldX (T.ty t) row c s.n s.ob) fun v => opt (resX T s r) fun vs => some (v.v :: vs)
    | _ => none
theorem resX_ok {T : Env P} {s : YS} : ∀ {rs : List ResultVar} {vs : List AV}, resX T s rs = some vs → ∀ K : List AV → Prop, K vs → resW s.st P rs K
  | [], vs, h, K, hK => by
    simp only [resX, Option.some.injEq] at h
    subst h; exact hK
  | .tmp t :: r, vs, h, K, hK => by
    unfold resX at h
    obtain ⟨us, h1, h⟩ := opt_some h
    simp only [Option.some.injEq] at h
    subst h
    refine resX_ok h1 _ ?_
    have : s.st.env t = evX (.tmp t) s.env := (evX_eq (.tmp t) s.env (obsA s.n s.ob)).symm
    rw [this]; exact hK
  | .cell a t :: r, vs, h, K, hK => by
    unfold resX at h
    split at h
    · rename_i id rr c he
      obtain ⟨row, h1, h⟩ := opt_some h
      obtain ⟨v, h2, h⟩ := opt_some h
      obtain ⟨us, h3, h⟩ := opt_some h
      simp only [Option.some.injEq] at h
      subst h
      obtain ⟨k1, _, _, k4⟩ := ldX_ok h2
      have e1 : s.st.env a = .ptr id rr c := (evX_eq (.tmp a) s.env (obsA s.n s.ob)).symm.trans he
      rw [rowX_eq (envA s.env)] at h1
      have h1 : rowOf s.st id rr = some row := h1
      unfold resW
      simp only [e1, h1]
      exact ⟨k1, k4 _ (resX_ok h3 _ hK)⟩
    · cases h

noncomputable def envX (l : List AV) : Nat → E3 → E3 := @List.rec AV (fun _ => Nat → E3 → E3) (fun _ e => e) (fun v _ ih i e => p3 i v e fun e' => ih (Nat.succ i) e') l
theorem envX_eq : ∀ (l : List AV) (i : Nat) (e : E3) (f : Nat → AV), i + l.length ≤ 512 → envA e = f → envA (envX l i e) = fun k => if i ≤ k ∧ k < i + l.length then l.getD (k - i) .undef else f k
  | [], i, e, f, _, he => by
    show envA e = _
    rw [he]
    funext k
    rw [if_neg (by simp)]
  | v :: l, i, e, f, hl, he => by
    have hl : i + (l.length + 1) ≤ 512 := hl
    have e1 : envX (v :: l) i e = envX l (i + 1) (s3 i v e) := by
      show p3 i v e (fun e' => envX l (i + 1) e') = _
      rw [p3_eq]
    rw [e1, envX_eq l (i + 1) _ (upd f i v) (by omega) (by rw [envA_s3 (by omega), he])]
    funext k
    simp only [List.length_cons]
    by_cases h1 : i + 1 ≤ k ∧ k < i + 1 + l.length
    · rw [if_pos h1, if_pos (by omega)]
      have : k - i = (k - (i + 1)) + 1 := by omega
      rw [this, List.getD_cons_succ]
    · rw [if_neg h1]
      unfold upd
      by_cases h2 : k = i
      · subst h2
        rw [if_pos rfl, if_pos (by omega)]
        simp
      · rw [if_neg h2, if_neg (by omega)]
end Go.Am
end
section
/- FUNCTIONS, COMPUTED -/
namespace Go.Am
variable {P : Program} {N n0 : Nat}

noncomputable def exE {β : Type} (e : Exit) (k : Option β) : Option β := @Exit.rec (fun _ => Option β → Option β) (fun k => k) (fun _ _ => none) (fun _ _ => none) (fun k => k) (fun _ _ => none) (fun _ => none) e k
noncomputable def retX (vs : List AV) : AV := @List.rec AV (fun _ => AV) (.tup []) (fun v r _ => @List.rec AV (fun _ => AV) v (fun _ _ _ => .tup vs) r) vs
theorem retX_eq (vs : List AV) : retX vs = retV vs := by
  match vs with
  | [] => rfl
  | [v] => rfl
  | v :: w :: r => rfl
noncomputable def orE {β : Type} (a b : Option β) : Option β := @Option.rec β (fun _ => Option β → Option β) (fun b => b) (fun x _ => some x) a b
theorem orE_some {β : Type} {a b : Option β} {r : β} (h : orE a b = some r) : a = some r ∨ b = some r := by
  cases a with
  | none => exact .inr h
  | some x => exact .inl h

noncomputable def bodX (T : Env P) (call : CallX) (x : FnX) (args : List AV) (n : Nat) (h : E5) : Option VS :=
  gd (Nat.ble x.N 512) (gd (Nat.ble (lenX args 0) x.N) (opt (execX x.code T call x.N ⟨envX args 0 e3, n, h⟩) fun p => @Prod.rec Exit YS (fun _ => Option VS) (fun y s => exE y (opt (resX T s x.rs) fun vs => ysK s fun _ n' h' => gd (Nat.ble n n') (some ⟨retX vs, n', h'⟩))) p))
noncomputable def runX (T : Env P) (orc : CallX) (spc : CallX → CallX) (k : Nat) : CallX :=
  @Nat.rec (fun _ => CallX) orc (fun _ ih f args n h => orE (orc f args n h) (orE (spc ih f args n h) (opt (T.fn f) fun x => bodX T ih x args n h))) k

theorem bodX_ok {T : Env P} {call : CallX} (hc : CallOK P call) {f : Nat} {x : FnX} (hx : T.fn f = some x) {args : List AV} {n : Nat} {h : E5} {r : VS} (hr : bodX T call x args n h = some r) : Holds P f args (obsA n h) r.v (obsA r.n r.ob) := by
  unfold bodX at hr
  obtain ⟨h1, hr⟩ := gd_some hr
  obtain ⟨h2, hr⟩ := gd_some hr
  obtain ⟨p, hp, hr⟩ := opt_some hr
  obtain ⟨e, s⟩ := p
  have h1 := Nat.le_of_ble_eq_true h1
  have h2 := Nat.le_of_ble_eq_true h2
  rw [lenX_eq] at h2
  obtain ⟨fu, k1, k2, k3, k4, k5⟩ := T.fnOK f x hx
  have hee : e = .normal ∨ e = .ret := by
    cases e <;> first | exact .inl rfl | exact .inr rfl | exact absurd hr (by intro e; cases e)
  have hr : (opt (resX T s x.rs) fun vs => ysK s fun _ n' h' => gd (Nat.ble n n') (some (⟨retX vs, n', h'⟩ : VS))) = some r := by
    rcases hee with rfl | rfl <;> exact hr
  obtain ⟨vs, hv, hr⟩ := opt_some hr
  rw [ysK_eq] at hr
  obtain ⟨h3, hr⟩ := gd_some hr
  simp only [Option.some.injEq] at hr
  subst hr
  have h3 := Nat.le_of_ble_eq_true h3
  refine Holds.of_body' x.N n x.rs k1 k2 k3 k4 k5 (obsA_length _ _) (by simpa using h2) ?_
  have hst : (⟨fun k => args.getD k .undef, obsA n h⟩ : St) = (⟨envX args 0 e3, n, h⟩ : YS).st := by
    unfold YS.st
    have := envX_eq args 0 e3 _ (by simpa using Nat.le_trans (by simpa using h2) h1) envA_e3
    rw [this]
    congr 1
    funext k
    by_cases hk : k < args.length
    · rw [if_pos ⟨Nat.zero_le _, by simpa using hk⟩]; rfl
    · rw [if_neg (by simp; omega)]
      rw [List.getD_eq_getElem?_getD, List.getElem?_eq_none (by omega)]; rfl
  rw [hst]
  refine execX_ok hc _ _ _ _ hp _ ?_
  have fin : resW s.st P x.rs fun vs => RetOK n s.st (retV vs) (retX vs) (obsA s.n s.ob) := by
    refine resX_ok hv _ ?_
    exact RetOK_all rfl (by rw [obsA_length]; exact h3) (retX_eq _).symm
  have fin2 : resW s.st P x.rs fun us => RetOK n s.st (retV us) (retX vs) (obsA s.n s.ob) := resX_ok hv _ (RetOK_all rfl (by rw [obsA_length]; exact h3) (retX_eq _).symm)
  rcases hee with rfl | rfl
  · exact fin2
  · exact fin2

theorem runX_ok {T : Env P} {orc : CallX} {spc : CallX → CallX} (ho : CallOK P orc) (hs : ∀ call, CallOK P call → CallOK P (spc call)) : ∀ k, CallOK P (runX T orc spc k)
  | 0 => ho
  | k + 1 => by
    intro f args n h r hr
    rcases orE_some (show orE (orc f args n h) (orE (spc (runX T orc spc k) f args n h) (opt (T.fn f) fun x => bodX T (runX T orc spc k) x args n h)) = some r from hr) with hr | hr
    · exact ho f args n h r hr
    · rcases orE_some hr with hr | hr
      · exact hs _ (runX_ok ho hs k) f args n h r hr
      · obtain ⟨x, hx, hr⟩ := opt_some hr
        exact bodX_ok (runX_ok ho hs k) hx hr

/-- no oracle -/
def noO : CallX := fun _ _ _ _ => none
theorem noO_ok : CallOK P noO := fun _ _ _ _ _ h => by cases h
def noS : CallX → CallX := fun _ => noO
theorem noS_ok : ∀ call, CallOK P call → CallOK P (noS call) := fun _ _ => noO_ok
end Go.Am
end
section
/- FROZEN RESULTS, AND TABLES OF CALLS -/
namespace Go.Am
variable {P : Program}

/-! ### a value with all behind it -/
noncomputable def mapO {α β : Type} (f : α → Option β) (l : List α) : Option (List β) :=
  @List.rec α (fun _ => Option (List β)) (some []) (fun a _ ih => opt (f a) fun b => opt ih fun r => some (b :: r)) l
theorem mapO_spec {α β : Type} {f : α → Option β} : ∀ {l : List α} {r : List β}, mapO f l = some r → l.length = r.length ∧ ∀ (j : Nat) b, r[j]? = some b → ∃ a, l[j]? = some a ∧ f a = some b
  | [], r, h => by
    have h : some [] = some r := h
    simp only [Option.some.injEq] at h
    subst h
    exact ⟨rfl, by simp⟩
  | a :: l, r, h => by
    obtain ⟨b, h1, h⟩ := opt_some (show opt (f a) (fun b => opt (mapO f l) fun r => some (b :: r)) = some r from h)
    obtain ⟨t, h2, h⟩ := opt_some h
    simp only [Option.some.injEq] at h
    subst h
    obtain ⟨k1, k2⟩ := mapO_spec h2
    refine ⟨by simp [k1], fun j b' hj => ?_⟩
    cases j with
    | zero =>
      simp only [List.getElem?_cons_zero, Option.some.injEq] at hj
      subst hj
      exact ⟨a, rfl, h1⟩
    | succ j => simpa using k2 j b' (by simpa using hj)

noncomputable def rowF (sz : Nat) (f : AV → Option AV) (row : List AV) : Option (List AV) := opt (mapO f row) fun r => gd (Nat.beq (lenX r 0) sz) (some r)
noncomputable def frzX (n : Nat) (h : E5) (d : Nat) : AV → Option AV :=
  @Nat.rec (fun _ => AV → Option AV) (fun _ => none) (fun _ ih v => seqK v (fun id sz off len => arrX n h id fun sz' rows => gd (Nat.beq sz' sz) (opt (mapO (rowF sz ih) (takeX (dropX rows off) len)) fun rows' => some (.tree sz rows')))
    (fun sz rows => some (.tree sz rows)) (fun x => some (.lit x)) none) d
theorem frzX_ok {e : Nat → AV} {n : Nat} {h : E5} : ∀ {d : Nat} {v c : AV}, frzX n h d v = some c → Frz ⟨e, obsA n h⟩ (fun id => id ∈ ([] : List Nat)) c v
  | 0, v, c, hr => by cases hr
  | d + 1, v, c, hr => by
    have ih := @frzX_ok e n h d
    cases v with
    | lit x =>
      have hr : some (AV.lit x) = some c := hr
      simp only [Option.some.injEq] at hr
      subst hr; exact .lit x
    | tree sz rows =>
      have hr : some (AV.tree sz rows) = some c := hr
      simp only [Option.some.injEq] at hr
      subst hr; exact .tree sz rows
    | ref id sz off len =>
      obtain ⟨sz', rows, _, ho, hr1⟩ := arrX_some (show arrX n h id _ = some c from hr)
      obtain ⟨h1, hr2⟩ := gd_some hr1
      obtain ⟨rows', h2, hr3⟩ := opt_some hr2
      simp only [Option.some.injEq] at hr3
      subst hr3
      have h1 := beq_nat h1
      subst h1
      rw [takeX_eq, dropX_eq] at h2
      obtain ⟨k1, k2⟩ := mapO_spec h2
      have key : ∀ r cc v, cellAt rows' r cc = some v → ∃ w, cellAt ((rows.drop off).take len) r cc = some w ∧ frzX n h d w = some v := by
        intro r cc v hv
        simp only [cellAt] at hv
        cases hrr : rows'[r]? with
        | none => rw [hrr] at hv; simp at hv
        | some row' =>
          rw [hrr] at hv
          simp only [Option.bind_some] at hv
          obtain ⟨row, e1, e2⟩ := k2 r row' hrr
          unfold rowF at e2
          obtain ⟨r2, e3, e4⟩ := opt_some e2
          obtain ⟨_, e5⟩ := gd_some e4
          simp only [Option.some.injEq] at e5
          subst e5
          obtain ⟨w, e6, e7⟩ := (mapO_spec e3).2 cc v hv
          exact ⟨w, by simp [cellAt, e1, e6], e7⟩
      refine .ref id sz' off len rows rows' (fun r cc => (cellAt ((rows.drop off).take len) r cc).getD .undef) ho (by simp) k1.symm (fun row hrow => ?_) (fun r cc v hv => ?_) (fun r cc v hv => ?_)
      · obtain ⟨j, hj⟩ := List.getElem?_of_mem hrow
        obtain ⟨row0, _, e2⟩ := k2 j row hj
        unfold rowF at e2
        obtain ⟨r2, _, e4⟩ := opt_some e2
        obtain ⟨e5, e6⟩ := gd_some e4
        simp only [Option.some.injEq] at e6
        subst e6
        rw [lenX_eq] at e5
        simpa using beq_nat e5
      · obtain ⟨w, e1, _⟩ := key r cc v hv
        rw [e1]; rfl
      · obtain ⟨w, e1, e2⟩ := key r cc v hv
        rw [e1]; exact ih e2
    | _ => exact absurd hr (by intro e; cases e)

/-- an argument or a result: structs and tuples of such -/
noncomputable def frzA (n : Nat) (h : E5) (v : AV) : Option AV :=
  aggK v (fun cs => opt (mapO (frzX n h 9) cs) fun ds => some (.agg ds)) (frzX n h 9 v)
noncomputable def frzT (n : Nat) (h : E5) (v : AV) : Option AV :=
  tupK v (fun cs => opt (mapO (frzA n h) cs) fun ds => some (.tup ds)) (frzA n h v)

section
variable {e : Nat → AV} {n : Nat} {h : E5} {ρ : Nat → Nat}
theorem frzX_arg {d : Nat} {v c : AV} (hr : frzX n h d v = some c) : ArgR ⟨e, obsA n h⟩ (fun id => id ∈ ([] : List Nat)) ρ true c v := .snap c v rfl (frzX_ok hr)
theorem frzA_arg {v c : AV} (hr : frzA n h v = some c) : ArgR ⟨e, obsA n h⟩ (fun id => id ∈ ([] : List Nat)) ρ true c v := by
  have base : frzX n h 9 v = some c → ArgR ⟨e, obsA n h⟩ (fun id => id ∈ ([] : List Nat)) ρ true c v := fun h => frzX_arg h
  cases v with
  | agg cs =>
    obtain ⟨ds, h1, h2⟩ := opt_some (show opt (mapO (frzX n h 9) cs) (fun ds => some (.agg ds)) = some c from hr)
    simp only [Option.some.injEq] at h2
    subst h2
    obtain ⟨k1, k2⟩ := mapO_spec h1
    refine .agg ds cs k1.symm fun j a b ha hb => ?_
    obtain ⟨w, e1, e2⟩ := k2 j a ha
    rw [hb] at e1
    simp only [Option.some.injEq] at e1
    subst e1
    exact frzX_arg e2
  | _ => exact base hr
theorem frzT_arg {v c : AV} (hr : frzT n h v = some c) : ArgR ⟨e, obsA n h⟩ (fun id => id ∈ ([] : List Nat)) ρ true c v := by
  have base : frzA n h v = some c → ArgR ⟨e, obsA n h⟩ (fun id => id ∈ ([] : List Nat)) ρ true c v := fun h => frzA_arg h
  cases v with
  | tup cs =>
    obtain ⟨ds, h1, h2⟩ := opt_some (show opt (mapO (frzA n h) cs) (fun ds => some (.tup ds)) = some c from hr)
    simp only [Option.some.injEq] at h2
    subst h2
    obtain ⟨k1, k2⟩ := mapO_spec h1
    refine .tup ds cs k1.symm fun j a b ha hb => ?_
    obtain ⟨w, e1, e2⟩ := k2 j a ha
    rw [hb] at e1
    simp only [Option.some.injEq] at e1
    subst e1
    exact frzA_arg e2
  | _ => exact base hr
end

theorem Holds.turn2 {f : FuncId} {args : List AV} {objs objs' objs2 : List Ob} {res res2 : AV} (h : Holds P f args objs res objs') (ht : Turns objs.length ⟨fun k => [res].getD k .undef, objs'⟩ ⟨fun k => [res2].getD k .undef, objs2⟩) : Holds P f args objs res2 objs2 := by
  obtain ⟨hc, h⟩ := h
  refine ⟨hc, fun γ hs1 hs2 => Calls.mono (h γ hs1 hs2) ?_⟩
  rintro e w' ⟨cv, γ', h1, h2, h3, h4, h5⟩
  obtain ⟨γ2, a1, a2, a3, a4⟩ := ht objs γ γ' rfl h4 h5
  exact ⟨cv, γ2, h1, a1.trans h2, a2.trans h3, a3, a4⟩

/-- what a run from no objects gives, as what is only read -/
theorem Holds.frozen {f : FuncId} {args : List AV} {r : VS} {v : AV} (hh : Holds P f args [] r.v (obsA r.n r.ob)) (hz : frzT r.n r.ob r.v = some v) : Holds P f args [] v [] := by
  refine hh.turn2 ?_
  refine Turns.select [] true [] _ List.nodup_nil rfl (by simp) (by simp) (Nat.le_refl _) (by simp) fun k => ?_
  cases k with
  | succ k => left; simp
  | zero =>
    right
    have := frzT_arg (e := fun k => [r.v].getD k .undef) (ρ := rho (obsA r.n r.ob).length []) hz
    have e1 : (fun id => ∃ j, j < ([] : List Nat).length ∧ ([] : List Nat).getD j 0 = id ∧ ([] : List Ob)[j]? ≠ some .gone) = fun id => id ∈ ([] : List Nat) := by
      funext id; simp
    rw [e1]
    exact this

/-- a call, as a contract -/
theorem Holds.of_callW {f : FuncId} {args : List AV} {objs : List Ob} {res : AV} (hf : Callable P f) (h : callW P f args ⟨fun k => args.getD k .undef, objs⟩ fun v σ' => v = res ∧ σ'.objs = objs) : Holds P f args objs res objs := by
  refine ⟨hf, fun γ hsz hs => ?_⟩
  refine Calls.mono (call_sound hs hsz (fun j d hd => by
    have := hs.slots j
    have e : args.getD j .undef = d := by rw [List.getD_eq_getElem?_getD, hd]; rfl
    rw [← e]; exact this) h) ?_
  rintro e w' ⟨cv, v, σ', γ', h1, h2, h3, h4, h5, h6, ⟨rfl, h7⟩, h8⟩
  rw [h7] at h5 h6
  refine ⟨cv, { γ' with tmps := #[cv] }, h1, h2, rfl, ?_, ⟨h5.eos, h5.tape, h5.output, h5.size, h5.keep, h5.z0, h5.z1, h5.own, h5.len, h5.old, h5.drawn⟩⟩
  refine ⟨fun k => ?_, fun i o hi => ?_, ?_, ?_, h4.zlt, ?_⟩
  · cases k with
    | zero => exact h6
    | succ k => exact .undef _
  · have := h4.obs i o (by rw [h7]; exact hi)
    rw [h7] at this; exact this
  · have := h4.inj; rw [h7] at this; exact this
  · have := h4.nz; rw [h7] at this; exact this
  · have := h4.gl; rw [h7] at this; exact this

/-- contracts without objects, by name and arguments -/
structure Fact (P : Program) (f : Nat) (args : List AV) (v : AV) : Prop where
  h : Holds P f args [] v []
  a : noRefL args = true
  v : noRef v = true
theorem Fact.at {f : Nat} {args : List AV} {v : AV} (F : Fact P f args v) (n : Nat) (h : E5) : Holds P f args (obsA n h) v (obsA n h) := by
  refine Holds.of_callW F.h.1 ?_
  refine ⟨[], false, args, [], v, [], F.h, ⟨List.nodup_nil, rfl, by simp, rfl, ?_, by simp⟩, ?_⟩
  · intro j c d hc hd
    rw [hc] at hd
    simp only [Option.some.injEq] at hd
    subst hd
    have : ren (rho (obsA n h).length []) c = c := ren_noRef _ _ (noRefL_get F.a hc)
    have h2 := ArgR.same (σ := ⟨fun k => args.getD k .undef, obsA n h⟩) (kp := (· ∈ ([] : List Nat))) (ρ := rho (obsA n h).length []) (snap := false) c
    rw [this] at h2
    exact h2
  · exact ⟨ren_noRef _ _ F.v, by simp [mergeO]⟩

/-- the same at arguments of the caller's own, if nothing that is only read comes back -/
theorem Fact.snap {f : Nat} {args : List AV} {v : AV} (F : Fact P f args v) (hv : flat v = true) (n : Nat) (h : E5) {args2 : List AV} (hz : mapO (frzA n h) args2 = some args) : Holds P f args2 (obsA n h) v (obsA n h) := by
  obtain ⟨k1, k2⟩ := mapO_spec hz
  refine Holds.of_callW F.h.1 ?_
  refine ⟨[], true, args, [], v, [], F.h, ⟨List.nodup_nil, rfl, by simp, k1.symm, ?_, fun _ => ⟨hv, by simp⟩⟩, ?_⟩
  · intro j c d hc hd
    obtain ⟨w, e1, e2⟩ := k2 j c hc
    rw [hd] at e1
    simp only [Option.some.injEq] at e1
    subst e1
    exact frzA_arg e2
  · exact ⟨ren_noRef _ _ F.v, by simp [mergeO]⟩

/-- a table of calls: the function, its arguments (as what is only read), the result -/
abbrev Tab := Nat → Option (List AV → Option AV)
def TabOK (P : Program) (t : Tab) : Prop := ∀ f g, t f = some g → ∀ args v, g args = some v → Fact P f args v
noncomputable def tabA (t : Tab) : CallX := fun f args n h => opt (t f) fun g => opt (g args) fun v => some ⟨v, n, h⟩
noncomputable def tabB (t : Tab) : CallX := fun f args n h => opt (t f) fun g => opt (mapO (frzA n h) args) fun as => opt (g as) fun v => gd (flat v) (some ⟨v, n, h⟩)
theorem tabA_ok {t : Tab} (ht : TabOK P t) : CallOK P (tabA t) := by
  intro f args n h r hr
  obtain ⟨g, h1, hr⟩ := opt_some hr
  obtain ⟨v, h2, hr⟩ := opt_some hr
  obtain ⟨k1, k2, k3⟩ := some_VS hr
  rw [k1, k2, k3]
  exact (ht f g h1 args v h2).at n h
theorem tabB_ok {t : Tab} (ht : TabOK P t) : CallOK P (tabB t) := by
  intro f args n h r hr
  obtain ⟨g, h1, hr⟩ := opt_some hr
  obtain ⟨as, h2, hr⟩ := opt_some hr
  obtain ⟨v, h3, hr⟩ := opt_some hr
  obtain ⟨h4, hr⟩ := gd_some hr
  obtain ⟨k1, k2, k3⟩ := some_VS hr
  rw [k1, k2, k3]
  exact (ht f g h1 as v h3).snap h4 n h h2
noncomputable def orC (a b : CallX) : CallX := fun f args n h => orE (a f args n h) (b f args n h)
theorem orC_ok {a b : CallX} (ha : CallOK P a) (hb : CallOK P b) : CallOK P (orC a b) := by
  intro f args n h r hr
  rcases orE_some hr with hr | hr
  · exact ha f args n h r hr
  · exact hb f args n h r hr

/-- a run from no objects, its result as what is only read -/
noncomputable def frun (T : Env P) (orc : CallX) (spc : CallX → CallX) (f : Nat) (args : List AV) : Option AV :=
  opt (runX T orc spc 40 f args 0 e5) fun r => vsK r fun v n h => frzT n h v
theorem frun_ok {T : Env P} {orc : CallX} {spc : CallX → CallX} (ho : CallOK P orc) (hs : ∀ call, CallOK P call → CallOK P (spc call)) {f : Nat} {args : List AV} {v : AV} (hr : frun T orc spc f args = some v) : Holds P f args [] v [] := by
  obtain ⟨r, h1, hr⟩ := opt_some hr
  rw [vsK_eq] at hr
  exact (runX_ok ho hs 40 f args 0 e5 r h1).frozen hr
theorem frun_fact {T : Env P} {orc : CallX} {spc : CallX → CallX} (ho : CallOK P orc) (hs : ∀ call, CallOK P call → CallOK P (spc call)) {f : Nat} {args : List AV} {v : AV} (hr : frun T orc spc f args = some v) (ha : noRefL args = true) (hv : noRef v = true) : Fact P f args v := ⟨frun_ok ho hs hr, ha, hv⟩
end Go.Am
end
