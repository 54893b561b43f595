import Derived.Test.YtjbfepcaobnbpaaGreatDoorX09
import Derived.Lib.Strings
set_option linter.unusedVariables false
set_option linter.unusedSimpArgs false
set_option linter.unnecessarySimpa false
set_option linter.unusedSectionVars false
section
/- OPERATIONS OF THE MIRROR, sixth part: building -/
namespace Go.Am
variable {P : Program}

noncomputable def fillX (place : Nat → Option (Nat × Nat)) (l : List (Nat × AV)) : List AV → Option (List AV) :=
  @List.rec (Nat × AV) (fun _ => List AV → Option (List AV)) some (fun p _ ih cells => opt (place p.1) fun os =>
    gd (Nat.beq (lenX (celX p.2) 0) os.2) (gd (Nat.ble (os.1 + os.2) (lenX cells 0)) (gd (allX (celX p.2)) (ih (setC cells os.1 (celX p.2)))))) l
theorem fillX_some {place : Nat → Option (Nat × Nat)} {l : List (Nat × AV)} : ∀ {cells cs : List AV}, fillX place l cells = some cs → fillA place cells l = some cs ∧ (l.all fun p => (cellsOf p.2).all scal) = true := by
  induction l with
  | nil => intro cells cs h; exact ⟨h, rfl⟩
  | cons p l ih =>
    intro cells cs h
    obtain ⟨⟨off, size⟩, hp, h⟩ := opt_some (show opt (place p.1) _ = some cs from h)
    obtain ⟨h1, h⟩ := gd_some h
    obtain ⟨h2, h⟩ := gd_some h
    obtain ⟨h3, h⟩ := gd_some h
    obtain ⟨k1, k2⟩ := ih h
    rw [celX_eq, lenX_eq] at h1
    rw [lenX_eq] at h2
    rw [allX_eq, celX_eq] at h3
    have h1 := beq_nat h1
    have h2 := Nat.le_of_ble_eq_true h2
    refine ⟨?_, by rw [List.all_cons, h3, k2]; rfl⟩
    obtain ⟨i, v⟩ := p
    unfold fillA
    simp only at hp h1 h2 k1 ⊢
    rw [hp]
    simp only
    rw [if_pos ⟨by simpa using h1, by simpa using h2⟩]
    rw [setC_eq, celX_eq] at k1
    exact k1

noncomputable def prtX (e : E3) (l : List (Nat × Operand)) : List (Nat × AV) := l.map fun p => (p.1, evX p.2 e)
theorem prtX_eq (e : E3) (l : List (Nat × Operand)) (os : List Ob) : prtX e l = l.map fun p => (p.1, ev ⟨envA e, os⟩ p.2) := List.map_congr_left fun p _ => by rw [evX_eq p.2 e os]
noncomputable def allF (l : List (Nat × Nat × Nat)) : Bool := l.all fun f => Nat.blt 0 f.2.2
theorem allF_eq (l : List (Nat × Nat × Nat)) : allF l = l.all fun f => decide (0 < f.2.2) := by
  unfold allF; congr; funext f; rw [Bool.eq_iff_iff]; simp

noncomputable def x_build (t : TypeId) (parts : Array (Nat × Operand)) : OpF P := fun T _ e n h =>
  opt (T.ty t).zero fun z => ifX (Nat.beq (T.ty t).kind 3)
    (gd (allF (T.ty t).flds) (opt (fillX (fun i => ((T.ty t).flds[i]?).map fun f => (f.1, f.2.2)) (prtX e parts.toList) (z.map .lit)) fun cs => some ⟨.agg cs, n, h⟩))
    (gd (Nat.beq (T.ty t).kind 2) (kOK (T.ty (T.ty t).elem) (opt (fillX (fun i => some (i * (T.ty (T.ty t).elem).size, (T.ty (T.ty t).elem).size)) (prtX e parts.toList) (z.map .lit)) fun cs => some ⟨.agg cs, n, h⟩) none))
noncomputable def x_buildSlice (t : TypeId) (len : Nat) (parts : Array (Nat × Operand)) : OpF P := fun T _ e n h =>
  gd (Nat.beq (T.ty t).kind 1) (kOK (T.ty (T.ty t).elem) (opt (T.ty (T.ty t).elem).zero fun z => gd (Nat.blt 0 (T.ty (T.ty t).elem).size) (gd (Nat.beq z.length (T.ty (T.ty t).elem).size) (gd (Nat.ble (len * (T.ty (T.ty t).elem).size) 16777216)
    (opt (fillX (fun i => some (i * (T.ty (T.ty t).elem).size, (T.ty (T.ty t).elem).size)) (prtX e parts.toList) ((List.range len).flatMap fun _ => z.map .lit)) fun cs =>
      pshX n h (.arr (T.ty (T.ty t).elem).size (toRows (T.ty (T.ty t).elem).size len cs)) (.ref n (T.ty (T.ty t).elem).size 0 len))))) none)
noncomputable def x_makeSlice (t : TypeId) (l c : Operand) : OpF P := fun T _ e n h =>
  gd (Nat.beq (T.ty t).kind 1) (kOK (T.ty (T.ty t).elem) (opt (T.ty (T.ty t).elem).zero fun z => gd (Nat.blt 0 (T.ty (T.ty t).elem).size) (gd (Nat.beq z.length (T.ty (T.ty t).elem).size) (gd (Nat.ble (T.ty (T.ty t).elem).bytes 128)
    (natX (evX l e) (fun _ j => natX (evX c e) (fun _ j' => gd (Nat.beq j' j) (gd (Nat.ble j 1099511627776)
      (pshX n h (.arr (T.ty (T.ty t).elem).size (List.replicate j (z.map .lit))) (.ref n (T.ty (T.ty t).elem).size 0 j)))) none) none)))) none)

section
variable {dst : Option Tmp} {tt : TypeId} {p : String} {af : Array Edge} {g : Option (Nat × Bool)} {T : Env P} {call : CallX} {e : E3} {n : Nat} {h : E5} {r : VS}

theorem all_map {l : List (Nat × Operand)} {f : Nat × Operand → Nat × AV} {q : Nat × AV → Bool} : (l.map f).all q = l.all fun p => q (f p) := by
  simp [List.all_map, Function.comp_def]

theorem x_build_ok {t : TypeId} {parts : Array (Nat × Operand)} (hr : x_build t parts T call e n h = some r) : SndX P ⟨dst, .build t parts, tt, p, af, g⟩ e n h r := by
  intro K hK
  simp only [x_build, T.tyOK] at hr
  obtain ⟨z, hz, hr⟩ := opt_some hr
  unfold opW
  rcases ifX_some hr with ⟨hk, hr⟩ | ⟨_, hr⟩
  · have hk := beq_nat hk
    obtain ⟨h1, hr⟩ := gd_some hr
    obtain ⟨cs, hcs, hr⟩ := opt_some hr
    obtain ⟨k1, k2, k3⟩ := some_VS hr
    obtain ⟨f1, f2⟩ := fillX_some hcs
    rw [prtX_eq e _ (obsA n h)] at f1 f2
    rw [allF_eq] at h1
    rw [all_map] at f2
    simp only [hk, hz, f1]
    refine ⟨⟨f2, h1⟩, ?_⟩
    rw [k1, k2, k3] at hK; exact hK
  · obtain ⟨hk, hr⟩ := gd_some hr
    have hk := beq_nat hk
    obtain ⟨h1, hr⟩ := kOK_some hr
    obtain ⟨cs, hcs, hr⟩ := opt_some hr
    obtain ⟨k1, k2, k3⟩ := some_VS hr
    obtain ⟨f1, f2⟩ := fillX_some hcs
    rw [prtX_eq e _ (obsA n h)] at f1 f2
    rw [all_map] at f2
    simp only [hk, hz, f1]
    refine ⟨⟨f2, h1⟩, ?_⟩
    rw [k1, k2, k3] at hK; exact hK

theorem x_buildSlice_ok {t : TypeId} {len : Nat} {parts : Array (Nat × Operand)} (hr : x_buildSlice t len parts T call e n h = some r) : SndX P ⟨dst, .buildSlice t len parts, tt, p, af, g⟩ e n h r := by
  intro K hK
  simp only [x_buildSlice, T.tyOK] at hr
  obtain ⟨hk, hr⟩ := gd_some hr
  obtain ⟨h1, hr⟩ := kOK_some hr
  obtain ⟨z, hz, hr⟩ := opt_some hr
  obtain ⟨h2, hr⟩ := gd_some hr
  obtain ⟨h3, hr⟩ := gd_some hr
  obtain ⟨h4, hr⟩ := gd_some hr
  obtain ⟨cs, hcs, hr⟩ := opt_some hr
  obtain ⟨k1, k2, k3⟩ := pshX_some hr
  obtain ⟨f1, f2⟩ := fillX_some hcs
  rw [prtX_eq e _ (obsA n h)] at f1 f2
  rw [all_map] at f2
  unfold opW
  simp only [beq_nat hk, hz, f1]
  refine ⟨⟨h1, blt_true.1 h2, beq_nat h3, Nat.le_of_ble_eq_true h4, f2⟩, ?_⟩
  rw [k1, k3] at hK
  simpa [obsA_length] using hK

theorem x_makeSlice_ok {t : TypeId} {l c : Operand} (hr : x_makeSlice t l c T call e n h = some r) : SndX P ⟨dst, .makeSlice t l c, tt, p, af, g⟩ e n h r := by
  intro K hK
  simp only [x_makeSlice, T.tyOK] at hr
  obtain ⟨hk, hr⟩ := gd_some hr
  obtain ⟨h1, hr⟩ := kOK_some hr
  obtain ⟨z, hz, hr⟩ := opt_some hr
  obtain ⟨h2, hr⟩ := gd_some hr
  obtain ⟨h3, hr⟩ := gd_some hr
  obtain ⟨h4, hr⟩ := gd_some hr
  obtain ⟨kk, j, hl, hr⟩ := natX_some hr
  obtain ⟨kk', j', hc, hr⟩ := natX_some hr
  obtain ⟨h5, hr⟩ := gd_some hr
  obtain ⟨h6, hr⟩ := gd_some hr
  obtain ⟨k1, k2, k3⟩ := pshX_some hr
  rw [evX_eq l e (obsA n h)] at hl
  rw [evX_eq c e (obsA n h)] at hc
  have h5 := beq_nat h5
  have h6 := Nat.le_of_ble_eq_true h6
  unfold opW
  simp only [beq_nat hk, hz, hl, hc]
  refine ⟨⟨h1, blt_true.1 h2, beq_nat h3, by rw [h5], Int.natCast_nonneg _, by show (j : Int) ≤ 1099511627776; omega, Nat.le_of_ble_eq_true h4, trivial⟩, ?_, trivial⟩
  rw [k1, k3] at hK
  simpa [obsA_length] using hK
end
end Go.Am
end
section
/- OPERATIONS OF THE MIRROR, seventh part: slicing, copying -/
namespace Go.Am
variable {P : Program}

noncomputable def loX {β : Type} (e : E3) (o : Option Operand) (d : Nat) (k : Nat → Option β) : Option β :=
  match o with
  | none => k d
  | some x => natX (evX x e) (fun _ j => k j) none

noncomputable def x_slice (t : TypeId) (x : Operand) (lo hi mx : Option Operand) : OpF P := fun T _ e n h =>
  gd (Nat.beq (T.ty t).kind 1) (kOK (T.ty (T.ty t).elem) (gd mx.isNone
    (seqK (evX x e) (fun id sz off len => arrX n h id fun sz' _ => gd (Nat.beq sz' sz) (gd (Nat.beq sz (T.ty (T.ty t).elem).size)
        (loX e lo 0 fun l => loX e hi len fun u => gd (Nat.ble l u) (gd (Nat.ble u len) (some ⟨.ref id sz (off + l) (u - l), n, h⟩)))))
      (fun sz rows => gd (Nat.beq sz (T.ty (T.ty t).elem).size)
        (loX e lo 0 fun l => loX e hi (lenX rows 0) fun u => gd (Nat.ble l u) (gd (Nat.ble u (lenX rows 0)) (some ⟨.tree sz (dropX (takeX rows u) l), n, h⟩))))
      (fun _ => none) none)) none)

section
variable {dst : Option Tmp} {tt : TypeId} {p : String} {af : Array Edge} {g : Option (Nat × Bool)} {T : Env P} {call : CallX} {e : E3} {n : Nat} {h : E5} {r : VS}

theorem loX_some {β : Type} {o : Option Operand} {d : Nat} {k : Nat → Option β} {b : β} (os : List Ob) (hr : loX e o d k = some b) :
    ∃ l, k l = some b ∧ ((o = none ∧ l = d) ∨ ∃ kk x, o = some x ∧ ev ⟨envA e, os⟩ x = .lit (.int kk (Int.ofNat l))) := by
  unfold loX at hr
  cases o with
  | none => exact ⟨d, hr, .inl ⟨rfl, rfl⟩⟩
  | some x =>
    obtain ⟨kk, j, h1, h2⟩ := natX_some hr
    rw [evX_eq x e os] at h1
    exact ⟨j, h2, .inr ⟨kk, x, rfl, h1⟩⟩

theorem x_slice_ok {t : TypeId} {x : Operand} {lo hi mx : Option Operand} (hr : x_slice t x lo hi mx T call e n h = some r) : SndX P ⟨dst, .slice t x lo hi mx, tt, p, af, g⟩ e n h r := by
  intro K hK
  simp only [x_slice, T.tyOK] at hr
  obtain ⟨hk, hr⟩ := gd_some hr
  obtain ⟨hk2, hr⟩ := kOK_some hr
  obtain ⟨hm, hr⟩ := gd_some hr
  have hm : mx = none := by simpa using hm
  have hx := evX_eq x e (obsA n h)
  unfold opW
  cases hv : evX x e with
  | ref id sz off len =>
    rw [hv] at hr hx
    obtain ⟨sz', rows, _, ho, hr⟩ := arrX_some (show arrX n h id _ = some r from hr)
    obtain ⟨h1, hr⟩ := gd_some hr
    obtain ⟨h2, hr⟩ := gd_some hr
    obtain ⟨l, hr, hl⟩ := loX_some (obsA n h) hr
    obtain ⟨u, hr, hu⟩ := loX_some (obsA n h) hr
    obtain ⟨h3, hr⟩ := gd_some hr
    obtain ⟨h4, hr⟩ := gd_some hr
    obtain ⟨k1, k2, k3⟩ := some_VS hr
    have h3 := Nat.le_of_ble_eq_true h3
    have h4 := Nat.le_of_ble_eq_true h4
    simp only [← hx, ho]
    refine ⟨beq_nat hk, hk2, hm, beq_nat h1, beq_nat h2, ?_⟩
    rw [k1, k2, k3] at hK
    rcases hl with ⟨rfl, rfl⟩ | ⟨kk, y, rfl, hy⟩ <;> rcases hu with ⟨rfl, rfl⟩ | ⟨kk', y', rfl, hy'⟩
    · simpa using hK
    · simp only [Option.map_none, Option.map_some, hy']
      exact ⟨⟨Int.natCast_nonneg _, by show (u : Int) ≤ len; omega⟩, by simpa using hK⟩
    · simp only [Option.map_none, Option.map_some, hy]
      exact ⟨⟨Int.natCast_nonneg _, by show (l : Int) ≤ _; omega, trivial⟩, by simpa using hK⟩
    · simp only [Option.map_some, hy, hy']
      exact ⟨⟨Int.natCast_nonneg _, by show (l : Int) ≤ u; omega, by show (u : Int) ≤ len; omega⟩, by simpa using hK⟩
  | tree sz rows =>
    rw [hv] at hr hx
    obtain ⟨h2, hr⟩ := gd_some (show gd (Nat.beq sz _) _ = some r from hr)
    obtain ⟨l, hr, hl⟩ := loX_some (obsA n h) hr
    obtain ⟨u, hr, hu⟩ := loX_some (obsA n h) hr
    obtain ⟨h3, hr⟩ := gd_some hr
    obtain ⟨h4, hr⟩ := gd_some hr
    obtain ⟨k1, k2, k3⟩ := some_VS hr
    have h3 := Nat.le_of_ble_eq_true h3
    have h4 := Nat.le_of_ble_eq_true h4
    rw [lenX_eq] at h4 hu
    simp only [Nat.add_zero] at h4 hu
    simp only [← hx]
    refine ⟨beq_nat hk, hk2, hm, fun _ => beq_nat h2, ?_⟩
    rw [k1, k2, k3, dropX_eq, takeX_eq] at hK
    rcases hl with ⟨rfl, rfl⟩ | ⟨kk, y, rfl, hy⟩ <;> rcases hu with ⟨rfl, rfl⟩ | ⟨kk', y', rfl, hy'⟩
    · simpa using hK
    · simp only [Option.map_none, Option.map_some, hy']
      exact ⟨⟨Int.natCast_nonneg _, by show (u : Int) ≤ rows.length; omega⟩, by simpa using hK⟩
    · simp only [Option.map_none, Option.map_some, hy]
      exact ⟨⟨Int.natCast_nonneg _, by show (l : Int) ≤ _; omega⟩, by simpa using hK⟩
    · simp only [Option.map_some, hy, hy']
      exact ⟨⟨Int.natCast_nonneg _, by show (l : Int) ≤ u; omega, by show (u : Int) ≤ rows.length; omega⟩, by simpa using hK⟩
  | _ => rw [hv] at hr; exact absurd hr (by intro e; cases e)
end
end Go.Am
end
section
/- OPERATIONS OF THE MIRROR, eighth part: copying, converting -/
namespace Go.Am
variable {P : Program}

noncomputable def cpyB (d x : Operand) (t : TypeId) : OpF P := fun T _ e n h =>
  gd (Nat.beq (T.ty t).kind 1) (kOK (T.ty (T.ty t).elem) (srcX n h (evX x e) fun sz' src =>
    refK (evX d e) (fun id sz off len => arrX n h id fun sz'' rows => gd (Nat.beq sz' sz) (gd (Nat.beq sz'' sz) (gd (Nat.beq sz (T.ty (T.ty t).elem).size) (gd (Nat.blt 0 sz) (gd (allR src) (gd (Nat.ble n 32768)
      (p5 id (.arr sz (takeX rows off ++ takeX src (min src.length len) ++ dropX rows (off + min src.length len))) h fun h' => some ⟨.lit (.int .i64 ((min src.length len : Nat) : Int)), n, h'⟩))))))) none) none)
noncomputable def x_copy (args : Array Operand) (ats : Array TypeId) : OpF P := fun T c e n h =>
  match args.toList, ats.toList with
  | [d, x], [t, _] => cpyB d x t T c e n h
  | _, _ => none

def intT (P : Program) (d : TypeId) : Option IntKind :=
  match P.underlying d with
  | some (.int k) => some k
  | _ => none
noncomputable def x_convI (s d : TypeId) (x : Operand) : OpF P := fun _ _ e n h =>
  opt (intT P d) fun k => gd (P.underlying s).isSome (litK (evX x e) (fun v => intK v (fun _ m => some ⟨.lit (.int k (k.wrap m)), n, h⟩) none) none)

section
variable {dst : Option Tmp} {tt : TypeId} {p : String} {af : Array Edge} {g : Option (Nat × Bool)} {T : Env P} {call : CallX} {e : E3} {n : Nat} {h : E5} {r : VS}

theorem x_copy_ok {args : Array Operand} {ats : Array TypeId} (hr : x_copy args ats T call e n h = some r) : SndX P ⟨dst, .call { callee := .builtin .copy, args := args, argTypes := ats }, tt, p, af, g⟩ e n h r := by
  intro K hK
  unfold x_copy at hr
  unfold opW
  split at hr
  · rename_i d x t t' hxa hta
    simp only [hxa, hta]
    simp only [cpyB, T.tyOK] at hr
    obtain ⟨hk, hr⟩ := gd_some hr
    obtain ⟨hk2, hr⟩ := kOK_some hr
    obtain ⟨sz', src, hsrc, hr⟩ := srcX_some (e := envA e) hr
    rw [evX_eq x e (obsA n h)] at hsrc
    have hd := evX_eq d e (obsA n h)
    cases hv : evX d e with
    | ref id sz off len =>
      rw [hv] at hr hd
      obtain ⟨sz'', rows, hi, ho, hr⟩ := arrX_some (show arrX n h id _ = some r from hr)
      obtain ⟨h1, hr⟩ := gd_some hr
      obtain ⟨h2, hr⟩ := gd_some hr
      obtain ⟨h3, hr⟩ := gd_some hr
      obtain ⟨h4, hr⟩ := gd_some hr
      obtain ⟨h5, hr⟩ := gd_some hr
      obtain ⟨h6, hr⟩ := gd_some hr
      rw [p5_eq] at hr
      simp only [Option.some.injEq] at hr
      rw [← hr] at hK
      simp only [obsA_set (Nat.le_of_ble_eq_true h6) hi, takeX_eq, dropX_eq] at hK
      rw [allR_eq] at h5
      simp only [← hd, hsrc, ho]
      exact ⟨⟨beq_nat hk, hk2, beq_nat h1, beq_nat h2, beq_nat h3, blt_true.1 h4, h5⟩, hK⟩
    | _ => rw [hv] at hr; exact absurd hr (by intro e; cases e)
  · cases hr

theorem x_convI_ok {s d : TypeId} {x : Operand} (hr : x_convI s d x T call e n h = some r) : SndX P ⟨dst, .convert s d x, tt, p, af, g⟩ e n h r := by
  intro K hK
  simp only [x_convI] at hr
  obtain ⟨k, hk, hr⟩ := opt_some hr
  obtain ⟨hs, hr⟩ := gd_some hr
  have hx := evX_eq x e (obsA n h)
  have hd : P.underlying d = some (.int k) := by
    unfold intT at hk
    split at hk
    · rename_i k' hk'
      simp only [Option.some.injEq] at hk
      rw [hk', hk]
    · cases hk
  cases hv : evX x e with
  | lit v =>
    rw [hv] at hr hx
    cases v with
    | int k' m =>
      obtain ⟨k1, k2, k3⟩ := some_VS (show some (⟨.lit (.int k (k.wrap m)), n, h⟩ : VS) = some r from hr)
      unfold opW
      simp only [hd, ← hx]
      refine ⟨hs, ?_⟩
      rw [k1, k2, k3] at hK; exact hK
    | _ => exact absurd hr (by intro e; cases e)
  | _ => rw [hv] at hr; exact absurd hr (by intro e; cases e)
end
end Go.Am
end
section
/- STEPS: an operation leads from one state to one other -/
namespace Go.Am
variable {P : Program} {N : Nat}

def StepOK (P : Program) (N : Nat) (o : Oper) (σ σ' : St) : Prop :=
  ∀ (os : List Ob) (γ0 : Cx) (a : Act) (w : World) (Q : Exit → Act → World → Prop) (next : Act → World → Prop), Okay N os γ0 σ a w → (∀ d, o.dst = some d → d < N) →
    (∀ a' w', Okay N os γ0 σ' a' w' → next a' w') → o.wp P a w next Q

theorem opG_of_opW {o : Oper} {σ : St} {K : St → Prop} (h : opW P o σ K) : opG P o σ K := by
  unfold opG
  split
  · rename_i f args ats hop
    unfold opW at h
    simp [hop] at h
  · rename_i rr m args ats hop
    unfold opW at h
    simp [hop] at h
  · exact h

theorem StepOK.of_opG {o : Oper} {σ σ' : St} (h : opG P o σ (· = σ')) : StepOK P N o σ σ' := by
  intro os γ0 a w Q next hok hd hn
  exact opG_sound h hok hd fun s a' w' hK hok' => hn a' w' (by rw [hK] at hok'; exact hok')

theorem StepOK.of_snd {o : Oper} {e : E3} {n : Nat} {h : E5} {r : VS} (hs : SndX P o e n h r) :
    StepOK P N o ⟨envA e, obsA n h⟩ ((⟨envA e, obsA r.n r.ob⟩ : St).put o.dst r.v) :=
  StepOK.of_opG (opG_of_opW (hs _ rfl))

/-- a call of a Go function: all objects are lent -/
theorem StepOK.of_call {dst : Option Tmp} {f : Operand} {args : Array Operand} {ats : Array TypeId} {tt : TypeId} {p : String} {af : Array Edge} {g : Option (Nat × Bool)} {σ : St} {fid : FuncId} {caps : List AV} {res : AV} {objs' : List Ob}
    (hf : ev σ f = .fn fid caps) (hh : Holds P fid (args.toList.map (ev σ) ++ caps) σ.objs res objs') (hl : σ.objs.length ≤ objs'.length) :
    StepOK P N ⟨dst, .call { callee := .value f, args := args, argTypes := ats }, tt, p, af, g⟩ σ ((⟨σ.env, objs'⟩ : St).put dst res) := by
  refine StepOK.of_opG ?_
  unfold opG
  simp only [hf]
  exact callK_all hh hl rfl
end Go.Am
end
section
/- NEW OPERATIONS: the frame; shifts, strings, nil, structs -/
namespace Go.Am
variable {P : Program} {N : Nat}

theorem StepOK.of_out {o : Oper} {σ σ' : St} (h : ∀ (γ : Cx) (a : Act), Sim σ γ → γ.tmps = a.tmps → (∀ d, o.dst = some d → d < a.tmps.size) → OpOut o σ γ a (· = σ') ((execOp a.eval o).run P γ.w)) : StepOK P N o σ σ' := by
  intro os γ0 a w Q next hok hd hn
  obtain ⟨hdf, hsz, γ, rfl, ha, hs, hf⟩ := hok
  obtain ⟨n, x, w', σ1, γ', hr, hn', hK, hs', hf', hw', ht'⟩ := h γ a hs ha (fun d h => by rw [hsz]; exact hd d h)
  subst hK
  unfold Oper.wp
  rw [hr]
  have hok' : Okay N os γ0 σ1 (a.put o.dst x) w' := ⟨by rw [put_defers]; exact hdf, by rw [put_size]; exact hsz, γ', hw', ht', hs', hf.trans hf'⟩
  rcases hn' with rfl | ⟨rfl, rfl⟩
  · exact hn _ _ hok'
  · exact hn _ _ hok'

/-- a step that gives a value and leaves the objects -/
theorem StepOK.of_val {o : Oper} {e : E3} {n : Nat} {h : E5} {v : AV}
    (hh : ∀ (γ : Cx) (a : Act), Sim ⟨envA e, obsA n h⟩ γ → (∀ x, RelV (obsA n h) γ.w γ.Z γ.blk (evX x e) (a.eval x)) → ∃ cv, (execOp a.eval o).run P γ.w = .ok (.value cv) γ.w ∧ RelV (obsA n h) γ.w γ.Z γ.blk v cv) :
    StepOK P N o ⟨envA e, obsA n h⟩ ((⟨envA e, obsA n h⟩ : St).put o.dst v) := by
  refine StepOK.of_out fun γ a hs ha hd => ?_
  obtain ⟨cv, h1, h2⟩ := hh γ a hs fun x => by rw [evX_eq x e (obsA n h)]; exact ev_rel hs ha x
  exact out_put (K := (· = (⟨envA e, obsA n h⟩ : St).put o.dst v)) hs ha hd h2 rfl h1

section
variable {dst : Option Tmp} {tt : TypeId} {p : String} {af : Array Edge} {g : Option (Nat × Bool)} {T : Env P} {call : CallX} {e : E3} {n : Nat} {h : E5} {r : VS}

/-! ### shifts -/
noncomputable def nmin (a b : Nat) : Nat := ifX (Nat.ble a b) a b
theorem nmin_eq (a b : Nat) : nmin a b = min a b := by
  unfold nmin; rw [ifX_eq, Nat.min_def]
  by_cases h : a ≤ b
  · rw [if_pos (by simpa using h), if_pos h]
  · rw [if_neg (by simpa using h), if_neg h]
noncomputable def shfX (op : BinOp) (k : IntKind) (a b : Int) : Option Value :=
  ifX (ileX 0 b) (@BinOp.rec (fun _ => Option Value) none none none none none none none none (some (.int k (k.wrap (Int.mul a (Int.ofNat (Nat.pow 2 (nmin b.toNat k.bits))))))) (some (.int k (Int.fdiv a (Int.ofNat (Nat.pow 2 (nmin b.toNat k.bits)))))) none none none none none none none op) none
theorem shfX_ok {op : BinOp} {k k' : IntKind} {a b : Int} {v : Value} {t : TypeId} {w : World} (hv : shfX op k a b = some v) : (binOp op t (.int k a) (.int k' b)).run P w = .ok v w := by
  unfold shfX at hv
  rcases ifX_some hv with ⟨hb, hv⟩ | ⟨_, hv⟩
  · rw [ileX_eq, decide_eq_true_eq] at hb
    have hb' : ¬ b < 0 := by omega
    have e2 : (Int.ofNat (Nat.pow 2 (nmin b.toNat k.bits))) = (2 : Int) ^ (min b.toNat k.bits) := by
      rw [nmin_eq]
      show ((2 ^ (min b.toNat k.bits) : Nat) : Int) = _
      simp
    cases op with
    | shl =>
      have hv : some (Value.int k (k.wrap (Int.mul a (Int.ofNat (Nat.pow 2 (nmin b.toNat k.bits)))))) = some v := hv
      rw [e2] at hv
      simp only [Option.some.injEq] at hv
      subst hv
      simp [binOp, Op.shift, hb']
    | shr =>
      have hv : some (Value.int k (Int.fdiv a (Int.ofNat (Nat.pow 2 (nmin b.toNat k.bits))))) = some v := hv
      rw [e2] at hv
      simp only [Option.some.injEq] at hv
      subst hv
      simp [binOp, Op.shift, hb']
    | _ => exact absurd hv (by intro e; cases e)
  · cases hv

/-! ### bytes -/
noncomputable def beqB (l : List UInt8) : List UInt8 → Bool :=
  @List.rec UInt8 (fun _ => List UInt8 → Bool) (fun m => @List.rec UInt8 (fun _ => Bool) true (fun _ _ _ => false) m) (fun a _ ih m => @List.rec UInt8 (fun _ => Bool) false (fun b t _ => ifX (Nat.beq a.toNat b.toNat) (ih t) false) m) l
theorem beqB_eq (l : List UInt8) : ∀ m, beqB l m = (l == m) := by
  induction l with
  | nil => intro m; cases m <;> rfl
  | cons a l ih =>
    intro m
    cases m with
    | nil => rfl
    | cons b m =>
      show ifX (Nat.beq a.toNat b.toNat) (beqB l m) false = _
      rw [ifX_eq, ih m, List.cons_beq_cons]
      by_cases h : a = b
      · subst h; simp
      · have h1 : a.toNat ≠ b.toNat := fun e => h (UInt8.toNat_inj.1 e)
        have h2 : (a == b) = false := by simpa using h
        rw [if_neg (by simpa using h1), h2]; rfl
noncomputable def byB (s : ByteArray) : List UInt8 := s.data.toList
theorem str_eql (x y : ByteArray) : (x.toList == y.toList) = beqB (byB x) (byB y) := by
  rw [beqB_eq, Lib.toList_data, Lib.toList_data]; rfl
noncomputable def mkB (l : List UInt8) : ByteArray := ⟨⟨l⟩⟩
noncomputable def appL (l m : List UInt8) : List UInt8 := @List.rec UInt8 (fun _ => List UInt8) m (fun a _ ih => a :: ih) l
theorem appL_eq (l m : List UInt8) : appL l m = l ++ m := by
  induction l with
  | nil => rfl
  | cons a l ih => show a :: appL l m = _; rw [ih]; rfl
theorem str_app (x y : ByteArray) : x ++ y = mkB (appL (byB x) (byB y)) := by
  apply ByteArray.ext
  rw [ByteArray.data_append]
  apply Array.ext'
  rw [Array.toList_append, appL_eq]
  rfl
theorem str_sub (x : ByteArray) (l u : Nat) : x.extract l u = mkB (dropX (takeX (byB x) u) l) := by
  apply ByteArray.ext
  rw [ByteArray.data_extract]
  apply Array.ext'
  rw [Array.toList_extract, takeX_eq, dropX_eq, List.extract_eq_take_drop]
  show List.take (u - l) (List.drop l x.data.toList) = List.drop l (List.take u x.data.toList)
  rw [List.drop_take]
theorem str_size (x : ByteArray) : x.size = lenX (byB x) 0 := by
  rw [lenX_eq, Lib.size_eq]; rfl

noncomputable def strOp (op : BinOp) (a b : ByteArray) : Option Value :=
  @BinOp.rec (fun _ => Option Value) (ifX (Nat.ble (lenX (byB a) 0 + lenX (byB b) 0) 1000000) (some (.string (mkB (appL (byB a) (byB b))))) none) none none none none none none none none none none
    (some (.bool (beqB (byB a) (byB b)))) (some (.bool (ifX (beqB (byB a) (byB b)) false true))) none none none none op
theorem strOp_ok {op : BinOp} {a b : ByteArray} {v : Value} {t : TypeId} {w : World} (hv : strOp op a b = some v) : (binOp op t (.string a) (.string b)).run P w = .ok v w := by
  cases op with
  | add =>
    rcases ifX_some (show ifX _ _ none = some v from hv) with ⟨hb, hv⟩ | ⟨_, hv⟩
    · simp only [Option.some.injEq] at hv
      subst hv
      have hb := Nat.le_of_ble_eq_true hb
      have hle : ¬ (((a.size + b.size : Nat) : Int) > IntKind.i64.max) := by
        have : IntKind.i64.max = 9223372036854775807 := by decide
        rw [this, str_size, str_size]; omega
      simp only [binOp, Op.stringOp]
      rw [if_neg hle, str_app]; simp
    · cases hv
  | eql =>
    have hv : some (Value.bool (beqB (byB a) (byB b))) = some v := hv
    simp only [Option.some.injEq] at hv
    subst hv
    simp only [binOp, Op.stringOp, str_eql]; simp
  | neq =>
    have hv : some (Value.bool (ifX (beqB (byB a) (byB b)) false true)) = some v := hv
    simp only [Option.some.injEq] at hv
    subst hv
    simp only [binOp, Op.stringOp, str_eql]
    cases beqB (byB a) (byB b) <;> simp [ifX]
  | _ => exact absurd hv (by intro e; cases e)
end
end Go.Am
end
