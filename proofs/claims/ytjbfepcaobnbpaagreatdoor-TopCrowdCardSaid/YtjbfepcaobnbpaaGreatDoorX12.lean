import Derived.Test.YtjbfepcaobnbpaaGreatDoorX11
import Derived.Lib.ConvBytes
import Derived.Lib.Bytealg
import Derived.Laws.BytesArg
set_option linter.unusedVariables false
set_option linter.unusedSimpArgs false
set_option linter.unnecessarySimpa false
set_option linter.unusedSectionVars false
section
/- NEW OPERATIONS: what turns the objects; conversions; calls -/
namespace Go.Am
variable {P : Program} {N : Nat}

/-! ### appending, nil too -/
noncomputable def srcX2 {β : Type} (n : Nat) (h : E5) (v : AV) (sz : Nat) (k : List (List AV) → Option β) : Option β :=
  seqK v (fun id sz' off len => arrX n h id fun sz'' rows => gd (Nat.beq sz'' sz') (gd (Nat.beq sz' sz) (k (takeX (dropX rows off) len)))) (fun sz' rows => gd (Nat.beq sz' sz) (k rows)) (fun v => nilX v (k [])) none
theorem srcX2_some {β : Type} {e : Nat → AV} {n : Nat} {h : E5} {v : AV} {sz : Nat} {k : List (List AV) → Option β} {b : β} (hr : srcX2 n h v sz k = some b) :
    ∃ rows v', srcRows ⟨e, obsA n h⟩ v' = some (sz, rows) ∧ (∀ os w Z blk cv, RelV os w Z blk v cv → RelV os w Z blk v' cv) ∧ k rows = some b := by
  unfold srcX2 at hr
  cases v with
  | ref id sz' off len =>
    obtain ⟨sz'', rows, _, ho, hr⟩ := arrX_some (show arrX n h id _ = some b from hr)
    obtain ⟨h1, hr⟩ := gd_some hr
    obtain ⟨h2, hr⟩ := gd_some hr
    have h1 := beq_nat h1
    have h2 := beq_nat h2
    refine ⟨_, .ref id sz' off len, ?_, fun _ _ _ _ _ h => h, hr⟩
    unfold srcRows
    simp only [ho]
    rw [if_pos h1, takeX_eq, dropX_eq, h2]
  | tree sz' rows =>
    obtain ⟨h2, hr⟩ := gd_some (show gd (Nat.beq sz' sz) (k rows) = some b from hr)
    have h2 := beq_nat h2
    exact ⟨rows, .tree sz' rows, by rw [h2]; rfl, fun _ _ _ _ _ h => h, hr⟩
  | lit w =>
    obtain ⟨rfl, hr⟩ := nilX_some (show nilX w (k []) = some b from hr)
    refine ⟨[], .tree sz [], rfl, fun os w Z blk cv h => ?_, hr⟩
    rw [h.lit_inv]
    exact .frz _ _ (.nil sz 0 none)
  | _ => exact absurd hr (by intro e; cases e)

noncomputable def catX (l m : List (List AV)) : List (List AV) := @List.rec (List AV) (fun _ => List (List AV)) m (fun a _ ih => a :: ih) l
theorem catX_eq (l m : List (List AV)) : catX l m = l ++ m := by
  induction l with
  | nil => rfl
  | cons a l ih => show a :: catX l m = _; rw [ih]; rfl

noncomputable def appB2 (d x : Operand) (t : TypeId) : OpF P := fun T _ e n h =>
  gd (Nat.beq (T.ty t).kind 1) (kOK (T.ty (T.ty t).elem) (gd (Nat.ble (T.ty (T.ty t).elem).bytes 256) (opt (T.ty (T.ty t).elem).zero fun z => gd (Nat.beq (lenX z 0) (T.ty (T.ty t).elem).size) (gd (Nat.blt 0 (T.ty (T.ty t).elem).size)
    (srcX2 n h (evX x e) (T.ty (T.ty t).elem).size fun src => gd (allR src)
      (seqK (evX d e) (fun id sz' off len => arrX n h id fun sz'' rows => gd (Nat.beq sz'' sz') (gd (Nat.beq sz' (T.ty (T.ty t).elem).size) (gd (Nat.ble n 32768) (gd (Nat.ble (lenX (takeX (dropX rows off) len) 0 + lenX src 0) 549755813888)
          (p5 id .gone h fun h1 => pshX n h1 (.arr (T.ty (T.ty t).elem).size (catX (takeX (dropX rows off) len) src)) (.ref n (T.ty (T.ty t).elem).size 0 (lenX (takeX (dropX rows off) len) 0 + lenX src 0)))))))
        (fun _ _ => none) (fun v => nilX v (gd (Nat.ble (lenX src 0) 549755813888) (pshX n h (.arr (T.ty (T.ty t).elem).size src) (.ref n (T.ty (T.ty t).elem).size 0 (lenX src 0))))) none))))) none)
noncomputable def x_append2 (args : Array Operand) (ats : Array TypeId) : OpF P := fun T c e n h =>
  match args.toList, ats.toList with
  | [d, x], [t, t'] => gd (Nat.beq t' t) (appB2 d x t T c e n h)
  | _, _ => none

section
variable {dst : Option Tmp} {tt : TypeId} {p : String} {af : Array Edge} {g : Option (Nat × Bool)} {T : Env P} {call : CallX} {e : E3} {n : Nat} {h : E5} {r : VS}

theorem x_append2_ok {args : Array Operand} {ats : Array TypeId} (hr : x_append2 args ats T call e n h = some r) :
    StepOK P N ⟨dst, .call { callee := .builtin .append, args := args, argTypes := ats }, tt, p, af, g⟩ ⟨envA e, obsA n h⟩ ((⟨envA e, obsA r.n r.ob⟩ : St).put dst r.v) := by
  unfold x_append2 at hr
  split at hr
  · rename_i d x t t' hxa hta
    rw [list_arr hxa, list_arr hta]
    obtain ⟨ht, hr⟩ := gd_some hr
    simp only [appB2, T.tyOK] at hr
    obtain ⟨hk, hr⟩ := gd_some hr
    obtain ⟨hk2, hr⟩ := kOK_some hr
    obtain ⟨hby, hr⟩ := gd_some hr
    obtain ⟨z, hz, hr⟩ := opt_some hr
    obtain ⟨hzl, hr⟩ := gd_some hr
    obtain ⟨hpos, hr⟩ := gd_some hr
    obtain ⟨src, v', hsrc, hrel, hr⟩ := srcX2_some (e := envA e) hr
    obtain ⟨hall, hr2⟩ := gd_some hr
    clear hr
    have hk := beq_nat hk
    have hby := Nat.le_of_ble_eq_true hby
    rw [lenX_eq] at hzl
    have hzl := beq_nat hzl
    have hpos := blt_true.1 hpos
    rw [allR_eq] at hall
    have ht := beq_nat ht
    subst ht
    have hd := evX_eq d e (obsA n h)
    have key : ∀ (pre : List (List AV)) (σ1 : St), dstRows ⟨envA e, obsA n h⟩ (ty P (ty P t').elem).size (ev ⟨envA e, obsA n h⟩ d) = some (pre, σ1) → pre.length + src.length ≤ 549755813888 →
        σ1.env = envA e → (obsA r.n r.ob = σ1.objs ++ [.arr (ty P (ty P t').elem).size (pre ++ src)]) → r.v = .ref σ1.objs.length (ty P (ty P t').elem).size 0 (pre.length + src.length) →
        StepOK P N ⟨dst, .call { callee := .builtin .append, args := [d, x].toArray, argTypes := [t', t'].toArray }, tt, p, af, g⟩ ⟨envA e, obsA n h⟩ ((⟨envA e, obsA r.n r.ob⟩ : St).put dst r.v) := by
      intro pre σ1 hdst hlen he1 ho1 hv1
      refine StepOK.of_out fun γ a hs ha hd' => ?_
      have E := fun x => ev_rel hs ha x
      have hx := E x
      rw [← evX_eq x e (obsA n h)] at hx
      obtain ⟨cv', γ1, h1, h2, h3, h4, h5⟩ := append_sound (P := P) (oty := tt) hs hk hk2 hz rfl hpos (by simpa using hzl) (E d) (hrel _ _ _ _ _ hx) hdst hsrc hlen hby hall
      refine out_put' (γ1 := γ1) (σ1 := { σ1 with objs := σ1.objs ++ [.arr (ty P (ty P t').elem).size (pre ++ src)] }) h4 h3 (by rw [h2]; exact ha) hd' h5 ?_ ?_
      · rw [ho1, hv1, ← he1]
      · simp [execOp, resolve, invoke, builtin, h1]
    cases hv : evX d e with
    | ref id sz' off len =>
      rw [hv] at hr2 hd
      obtain ⟨sz'', rows, hi, ho, hr⟩ := arrX_some (show arrX n h id _ = some r from hr2)
      obtain ⟨h1, hr⟩ := gd_some hr
      obtain ⟨h2, hr⟩ := gd_some hr
      obtain ⟨h3, hr⟩ := gd_some hr
      obtain ⟨h4, hr⟩ := gd_some hr
      rw [p5_eq] at hr
      obtain ⟨k1, k2, k3⟩ := pshX_some hr
      have h1 := beq_nat h1
      have h2 := beq_nat h2
      rw [lenX_eq, lenX_eq, takeX_eq, dropX_eq] at h4 k1
      rw [takeX_eq, dropX_eq, catX_eq, obsA_set (Nat.le_of_ble_eq_true h3) hi] at k3
      refine key ((rows.drop off).take len) ⟨envA e, (obsA n h).set id .gone⟩ ?_ (by simpa using Nat.le_of_ble_eq_true h4) rfl k3 ?_
      · rw [← hd]
        unfold dstRows
        simp only [ho]
        rw [if_pos ⟨h1, h2⟩]
      · rw [k1]; simp [obsA_length]
    | lit v =>
      rw [hv] at hr2 hd
      obtain ⟨rfl, hr⟩ := nilX_some (show nilX v _ = some r from hr2)
      obtain ⟨h4, hr⟩ := gd_some hr
      obtain ⟨k1, k2, k3⟩ := pshX_some hr
      rw [lenX_eq] at h4 k1
      refine key [] ⟨envA e, obsA n h⟩ ?_ (by simpa using Nat.le_of_ble_eq_true h4) rfl k3 ?_
      · rw [← hd]; rfl
      · rw [k1]; simp [obsA_length]
    | _ => rw [hv] at hr2; exact absurd hr2 (by intro e; cases e)
  · cases hr
end

/-! ### maps with strings as keys, while they are empty -/
def strMap (P : Program) (t : TypeId) : Bool :=
  match P.underlying t with
  | some (.map kt _) =>
    match P.underlying kt with
    | some .string => true
    | _ => false
  | _ => false
theorem strMap_some {t : TypeId} (h : strMap P t = true) : ∃ kt et, P.underlying t = some (.map kt et) ∧ P.underlying kt = some .string := by
  unfold strMap at h
  split at h
  · rename_i kt et hm
    split at h
    · rename_i hs; exact ⟨kt, et, hm, hs⟩
    · cases h
  · cases h
def nilL {α β : Type} (l : List α) (f : Option β) : Option β :=
  match l with
  | [] => f
  | _ => none
theorem nilL_some {α β : Type} {l : List α} {f : Option β} {b : β} (h : nilL l f = some b) : l = [] ∧ f = some b := by
  unfold nilL at h
  split at h
  · exact ⟨rfl, h⟩
  · cases h

noncomputable def mapE {β : Type} (n : Nat) (h : E5) (v : AV) (f : Nat → Option β) : Option β :=
  mrefK v (fun id => obX n h id (fun _ => none) (fun _ _ => none) (fun _ L => nilL L (f id)) none) none
theorem mapE_some {β : Type} {n : Nat} {h : E5} {v : AV} {f : Nat → Option β} {b : β} (hr : mapE n h v f = some b) : ∃ id ag, id < n ∧ v = .mref id ∧ (obsA n h)[id]? = some (.mp ag []) ∧ f id = some b := by
  unfold mapE at hr
  cases v with
  | mref id =>
    have hr : obX n h id (fun _ => none) (fun _ _ => none) (fun _ L => nilL L (f id)) none = some b := hr
    unfold obX at hr
    rcases ifX_some hr with ⟨hb, hr⟩ | ⟨_, hr⟩
    · have hi := blt_true.1 hb
      cases ho : g5 id h with
      | mp ag L =>
        rw [ho] at hr
        obtain ⟨rfl, hr⟩ := nilL_some (show nilL L (f id) = some b from hr)
        exact ⟨id, ag, hi, rfl, by rw [obsA_get _ hi, ho], hr⟩
      | _ => rw [ho] at hr; exact absurd hr (by intro e; cases e)
    · cases hr
  | _ => exact absurd hr (by intro e; cases e)

noncomputable def x_lookup (t : TypeId) (x i : Operand) (ok : Bool) : OpF P := fun T _ e n h =>
  mapE n h (evX x e) fun _ => litK (evX i e) (fun v => strK v (fun _ => gd (ifX ok false true) (gd (strMap P t) (gd (Nat.beq (T.ty t).kind 8) (opt (zeroV P (T.ty t).elem) fun z => some ⟨.lit z, n, h⟩)))) none) none
noncomputable def x_mapUpdate (t : TypeId) (m k _ : Operand) : OpF P := fun _ _ e n h =>
  mapE n h (evX m e) fun id => litK (evX k e) (fun v => strK v (fun _ => gd (strMap P t) (gd (Nat.ble n 32768) (p5 id .gone h fun h' => some ⟨.undef, n, h'⟩))) none) none

theorem Sim.free {σ : St} {γ : Cx} (h : Sim σ γ) {b : Nat} (hz : ¬ γ.Z b) (ho : ¬ Owned σ.objs γ.blk b) {w' : World} (hoth : ∀ k, k ≠ b → w'.heap[k]? = γ.w.heap[k]?) (hsz : w'.heap.size = γ.w.heap.size) : Sim σ { γ with w := w' } := by
  have hR : ∀ v cv, RelV σ.objs γ.w γ.Z γ.blk v cv → RelV σ.objs w' γ.Z γ.blk v cv := fun v cv hv =>
    hv.mono (fun z hzz => ⟨hzz, hoth z fun e => hz (e ▸ hzz)⟩) (fun i o hi => by
      by_cases hgo : o = .gone
      · subst hgo; exact .inl hi
      · exact .inr ⟨rfl, o, hi, Ob.like_refl hgo⟩)
  refine ⟨fun k => hR _ _ (h.slots k), fun i o hi => ?_, h.inj, h.nz, fun z hzz => by rw [hsz]; exact h.zlt z hzz, fun g => hR _ _ (h.gl g)⟩
  by_cases hgo : o = .gone
  · subst hgo; trivial
  · exact (h.obs i o hi).mono hR rfl fun z oo c hb => hoth z fun e => ho ⟨i, oo, c, ⟨o, hi, hgo⟩, e ▸ hb⟩

section
variable {dst : Option Tmp} {tt : TypeId} {p : String} {af : Array Edge} {g : Option (Nat × Bool)} {T : Env P} {call : CallX} {e : E3} {n : Nat} {h : E5} {r : VS}

theorem x_lookup_ok {t : TypeId} {x i : Operand} {ok : Bool} (hr : x_lookup t x i ok T call e n h = some r) :
    StepOK P N ⟨dst, .lookup t x i ok, tt, p, af, g⟩ ⟨envA e, obsA n h⟩ ((⟨envA e, obsA r.n r.ob⟩ : St).put dst r.v) := by
  unfold x_lookup at hr
  obtain ⟨id, ag, hid, hx, ho, hr⟩ := mapE_some hr
  obtain ⟨v, hv, hr⟩ := litK_some hr
  obtain ⟨s, rfl, hr⟩ := strK_some hr
  obtain ⟨h1, hr⟩ := gd_some hr
  obtain ⟨h2, hr⟩ := gd_some hr
  obtain ⟨h3, hr⟩ := gd_some hr
  obtain ⟨z, hz, hr⟩ := opt_some hr
  have hok : ok = false := by cases ok; rfl; exact absurd h1 (by intro e; cases e)
  obtain ⟨kt, et, ht, hkt⟩ := strMap_some h2
  rw [T.tyOK] at h3 hz
  obtain ⟨kt2, ht2⟩ := ty_map (beq_nat h3)
  rw [ht] at ht2
  simp only [Option.some.injEq, TypeDesc.map.injEq] at ht2
  rw [← ht2.2] at hz
  obtain ⟨k1, k2, k3⟩ := some_VS hr
  rw [k1, k2, k3, hok]
  refine StepOK.of_val fun γ a hs E => ⟨z, ?_, .lit z⟩
  have e1 := E x
  have e2 := E i; rw [hv] at e2
  obtain ⟨_, _, b, f, hb, hcv, hheap, _, _⟩ := mpOf_obj (σ := ⟨envA e, obsA n h⟩) hs e1 (id := id) (ag := ag) (L := []) (by rw [hx]; simp [mpOf, ho])
  have hzv : (zeroValue et).run P γ.w = .ok z γ.w := by
    unfold zeroV at hz
    split at hz
    · rename_i ii hi
      simp [zeroValue, typeInfo, hi, hz]
    · cases hz
  have hck : (Instr.checkKey true 10000 kt (.string s)).run P γ.w = .ok () γ.w := by
    unfold Instr.checkKey
    simp [run_underlying hkt]
  simp [execOp, hcv, e2.lit_inv, Instr.lookup, run_underlying ht, MapKept.run_getObj_map hheap, mkEs, mpE, hck, Instr.findKey, Instr.findNow, run_underlying hkt, hzv]

theorem x_mapUpdate_ok {t : TypeId} {m k x : Operand} (hr : x_mapUpdate t m k x T call e n h = some r) :
    StepOK P N ⟨dst, .mapUpdate t m k x, tt, p, af, g⟩ ⟨envA e, obsA n h⟩ ((⟨envA e, obsA r.n r.ob⟩ : St).put dst r.v) := by
  unfold x_mapUpdate at hr
  obtain ⟨id, ag, hid, hx, ho, hr⟩ := mapE_some hr
  obtain ⟨v, hv, hr⟩ := litK_some hr
  obtain ⟨s, rfl, hr⟩ := strK_some hr
  obtain ⟨h2, hr⟩ := gd_some hr
  obtain ⟨h3, hr⟩ := gd_some hr
  rw [p5_eq] at hr
  simp only [Option.some.injEq] at hr
  subst hr
  obtain ⟨kt, et, ht, hkt⟩ := strMap_some h2
  simp only [obsA_set (Nat.le_of_ble_eq_true h3) hid]
  refine StepOK.of_out fun γ a hs ha hd => ?_
  have E := fun x => ev_rel hs ha x
  have e1 := E m
  have e2 := E k
  rw [← evX_eq k e (obsA n h), hv] at e2
  obtain ⟨_, _, b, f, hb, hcv, hheap, _, _⟩ := mpOf_obj (σ := ⟨envA e, obsA n h⟩) hs e1 (id := id) (ag := ag) (L := []) (by rw [← evX_eq m e (obsA n h), hx]; simp [mpOf, ho])
  have hck : (Instr.checkKey false 10000 kt (.string s)).run P γ.w = .ok () γ.w := by
    unfold Instr.checkKey
    simp [run_underlying hkt]
  have hlv : Live (obsA n h) id := ⟨_, ho, by simp⟩
  have hbs : b < γ.w.heap.size := (Array.getElem?_eq_some_iff.1 hheap).1
  have hk := hs.kill id
  have hno : ¬ Owned ((obsA n h).set id .gone) γ.blk b := by
    rintro ⟨i, o, c, ⟨ob, hob, hg⟩, hbi⟩
    have hne : id ≠ i := by
      intro e; subst e
      rw [List.getElem?_set_self (by rw [obsA_length]; exact hid)] at hob
      simp at hob; exact hg hob.symm
    rw [List.getElem?_set_ne hne] at hob
    exact hne (hs.inj id i b 0 0 o c hlv ⟨ob, hob, hg⟩ hb hbi)
  have hnz : ¬ γ.Z b := hs.nz b ⟨id, 0, 0, hlv, hb⟩
  let w' : World := { γ.w with heap := γ.w.heap.setIfInBounds b (.map ((mkEs (mpE ag f [])).push ⟨.string s, a.eval x, 0⟩) (0 + 1)) }
  have hoth : ∀ j, j ≠ b → w'.heap[j]? = γ.w.heap[j]? := fun j hj => by simp [w', Array.getElem?_setIfInBounds_ne (Ne.symm hj)]
  have hsim := hk.free hnz hno (w' := w') hoth (by simp [w'])
  have fk := Fr.kill (obsA n h) γ id
  refine out_skip (K := (· = (⟨envA e, (obsA n h).set id .gone⟩ : St).put dst .undef)) (σ1 := ⟨envA e, (obsA n h).set id .gone⟩) (γ1 := { γ with w := w' }) ?_ hsim ha hd rfl ?_
  · exact { eos := rfl, tape := rfl, output := rfl, size := by simp [w'], keep := fun j hj hn => hoth j fun e => hn ⟨id, 0, 0, hlv, e ▸ hb⟩, z0 := fk.z0, z1 := fk.z1, own := fk.own, len := fk.len, old := fk.old, drawn := Nat.le_refl _ }
  · simp [execOp, hcv, e2.lit_inv, Instr.mapUpdate, run_underlying ht, MapKept.run_getObj_map hheap, hck, Instr.findKey, Instr.findNow, run_underlying hkt, mkEs, mpE, MapKept.run_setObj_map _ hheap, w']
end
end Go.Am
end
section
/- NEW OPERATIONS: conversions of strings; functions that the model has itself; bound functions -/
namespace Go.Am
variable {P : Program} {N : Nat}

def bytT (P : Program) (s : TypeId) : Bool :=
  match P.underlying s with
  | some (.slice e) =>
    match P.underlying e with
    | some (.int .u8) => true
    | _ => false
  | _ => false
theorem bytT_some {s : TypeId} (h : bytT P s = true) : ∃ e, P.underlying s = some (.slice e) ∧ P.underlying e = some (.int .u8) := by
  unfold bytT at h
  split at h
  · rename_i e hm
    split at h
    · rename_i hs; exact ⟨e, hm, hs⟩
    · cases h
  · cases h

noncomputable def bytR (row : List AV) (k : Int → Option (List UInt8)) : Option (List UInt8) :=
  @List.rec AV (fun _ => Option (List UInt8)) none (fun v _ _ => litK v (fun w => intK w (fun kk a => gd (Nat.beq (kIdx kk) (kIdx .u8)) (k a)) none) none) row
noncomputable def bytX (rows : List (List AV)) : Option (List UInt8) :=
  @List.rec (List AV) (fun _ => Option (List UInt8)) (some []) (fun row _ ih => bytR row fun a => opt ih fun l => some (UInt8.ofNat a.toNat :: l)) rows
theorem bytR_some {row : List AV} {k : Int → Option (List UInt8)} {l : List UInt8} (h : bytR row k = some l) : ∃ a, row[0]? = some (.lit (.int .u8 a)) ∧ k a = some l := by
  unfold bytR at h
  cases row with
  | nil => exact absurd h (by intro e; cases e)
  | cons v r =>
    obtain ⟨w, rfl, h⟩ := litK_some (show litK v _ none = some l from h)
    cases w with
    | int kk a =>
      obtain ⟨h1, h⟩ := gd_some (show gd (Nat.beq (kIdx kk) (kIdx .u8)) (k a) = some l from h)
      have := kIdx_inj h1
      subst this
      exact ⟨a, rfl, h⟩
    | _ => exact absurd h (by intro e; cases e)
theorem bytX_some : ∀ {rows : List (List AV)} {l : List UInt8}, bytX rows = some l → ∃ xs : List Int, l = xs.map (fun n => UInt8.ofNat n.toNat) ∧ xs.length = rows.length ∧ ∀ (i : Nat) a, xs[i]? = some a → cellAt rows i 0 = some (.lit (.int .u8 a))
  | [], l, h => by
    have h : some [] = some l := h
    simp only [Option.some.injEq] at h
    exact ⟨[], by rw [← h]; rfl, rfl, by simp⟩
  | row :: rows, l, h => by
    obtain ⟨a, h1, h2⟩ := bytR_some (show bytR row (fun a => opt (bytX rows) fun l => some (UInt8.ofNat a.toNat :: l)) = some l from h)
    obtain ⟨l', h3, h4⟩ := opt_some h2
    simp only [Option.some.injEq] at h4
    obtain ⟨xs, k1, k2, k3⟩ := bytX_some h3
    refine ⟨a :: xs, by rw [← h4, k1]; rfl, by simp [k2], fun i b hb => ?_⟩
    cases i with
    | zero =>
      simp only [List.getElem?_cons_zero, Option.some.injEq] at hb
      subst hb
      simp [cellAt, h1]
    | succ i => simpa [cellAt] using k3 i b (by simpa using hb)

noncomputable def rowsB (l : List UInt8) : List (List AV) := @List.rec UInt8 (fun _ => List (List AV)) [] (fun a _ ih => [.lit (.int .u8 (Int.ofNat a.toNat))] :: ih) l
theorem rowsB_eq (l : List UInt8) : rowsB l = l.map fun a => [.lit (.int .u8 (Int.ofNat a.toNat))] := by
  induction l with
  | nil => rfl
  | cons a l ih => show _ :: rowsB l = _; rw [ih]; rfl

noncomputable def x_conv2 (s d : TypeId) (x : Operand) : OpF P := fun T c e n h =>
  seqK (evX x e) (fun id sz off len => gd (Nat.beq (T.ty d).kind 4) (gd (bytT P s) (gd (Nat.beq sz 1) (gd (Nat.blt 0 len) (arrX n h id fun sz' rows => gd (Nat.beq sz' 1) (gd (Nat.beq (lenX (takeX (dropX rows off) len) 0) len) (opt (bytX (takeX (dropX rows off) len)) fun l => some ⟨.lit (.string (mkB l)), n, h⟩)))))))
    (fun sz rows => gd (Nat.beq (T.ty d).kind 4) (gd (bytT P s) (gd (Nat.beq sz 1) (gd (Nat.blt 0 (lenX rows 0)) (opt (bytX rows) fun l => some ⟨.lit (.string (mkB l)), n, h⟩))))) (fun v => strV v (fun b => gd (bytT P d) (gd (P.underlying s).isSome (some ⟨.tree 1 (rowsB (byB b)), n, h⟩))) (x_convI s d x T c e n h)) none

/-- a new block that is only read -/
theorem Sim.newZ {σ : St} {γ : Cx} (h : Sim σ γ) {w' : World} (hold : ∀ k, k < γ.w.heap.size → w'.heap[k]? = γ.w.heap[k]?) (hsz : w'.heap.size = γ.w.heap.size + 1) : Sim σ { γ with w := w', Z := fun b => γ.Z b ∨ b = γ.w.heap.size } := by
  have hR : ∀ v cv, RelV σ.objs γ.w γ.Z γ.blk v cv → RelV σ.objs w' (fun b => γ.Z b ∨ b = γ.w.heap.size) γ.blk v cv := fun v cv hv =>
    hv.mono (fun z hzz => ⟨.inl hzz, hold z (h.zlt z hzz)⟩) (fun i o hi => by
      by_cases hgo : o = .gone
      · subst hgo; exact .inl hi
      · exact .inr ⟨rfl, o, hi, Ob.like_refl hgo⟩)
  refine ⟨fun k => hR _ _ (h.slots k), fun i o hi => ?_, h.inj, ?_, ?_, fun g => hR _ _ (h.gl g)⟩
  · by_cases hgo : o = .gone
    · subst hgo; trivial
    · exact (h.obs i o hi).mono hR rfl fun z oo c hb => hold z (h.blt ⟨o, hi, hgo⟩ hb)
  · rintro b hb (hz | rfl)
    · exact h.nz b hb hz
    · obtain ⟨i, o, c, hl, hbi⟩ := hb
      have := h.blt hl hbi
      omega
  · rintro b (hz | rfl)
    · have := h.zlt b hz
      show b < w'.heap.size
      omega
    · show γ.w.heap.size < w'.heap.size
      omega

section
variable {dst : Option Tmp} {tt : TypeId} {p : String} {af : Array Edge} {g : Option (Nat × Bool)} {T : Env P} {call : CallX} {e : E3} {n : Nat} {h : E5} {r : VS}

theorem conv_bytes {s d : TypeId} {x : Operand} {v : AV} {src : List (List AV)} {l : List UInt8} (hv : evX x e = v) (hsrc : srcRows ⟨envA e, obsA n h⟩ v = some (1, src)) (h1 : (ty P d).kind = 4) (h2 : bytT P s = true) (h4 : 0 < src.length) (hl : bytX src = some l) :
    StepOK P N ⟨dst, .convert s d x, tt, p, af, g⟩ ⟨envA e, obsA n h⟩ ((⟨envA e, obsA n h⟩ : St).put dst (.lit (.string (mkB l)))) := by
  have hd := ty_string h1
  obtain ⟨et, hs1, hs2⟩ := bytT_some h2
  obtain ⟨xs, e1, e2, e3⟩ := bytX_some hl
  refine StepOK.of_val fun γ a hs E => ⟨_, ?_, .lit _⟩
  have ex := E x; rw [hv] at ex
  obtain ⟨ad, c, gg, hcv, _, hcell, hrel⟩ := src_cells (σ := ⟨envA e, obsA n h⟩) hs ex (sz := 1) (by omega) hsrc
  obtain ⟨b, o, rfl, hc⟩ := hcell h4
  have hrun := run_convert_bytes_arg (P := P) γ.w s et hs1 hs2 b o src.length c xs (by omega) (fun i hi => by
    have hxi : xs[i]? = some (xs.getD i 0) := by
      have : i < xs.length := by omega
      simp [List.getD_eq_getElem?_getD, this]
    rw [hc i (by omega)]
    have := hrel i 0 _ (e3 i _ hxi)
    rw [Nat.mul_one, Nat.add_zero] at this
    rw [this.lit_inv]) d hd
  have e4 : strOfNums xs = mkB l := by rw [e1]; rfl
  rw [e4] at hrun
  simp only [execOp, hcv, Sem.run_bind, hrun, Result.andThen_ok, Sem.run_pure]

theorem x_conv2_ok {s d : TypeId} {x : Operand} (hr : x_conv2 s d x T call e n h = some r) :
    StepOK P N ⟨dst, .convert s d x, tt, p, af, g⟩ ⟨envA e, obsA n h⟩ ((⟨envA e, obsA r.n r.ob⟩ : St).put dst r.v) := by
  unfold x_conv2 at hr
  cases hv : evX x e with
  | tree sz rows =>
    rw [hv] at hr
    obtain ⟨h1, hr1⟩ := gd_some (show gd (Nat.beq (T.ty d).kind 4) _ = some r from hr)
    obtain ⟨h2, hr2⟩ := gd_some hr1
    obtain ⟨h3, hr3⟩ := gd_some hr2
    obtain ⟨h4, hr4⟩ := gd_some hr3
    obtain ⟨l, hl, hr8⟩ := opt_some hr4
    obtain ⟨k1, k2, k3⟩ := some_VS hr8
    rw [T.tyOK] at h1
    have h3 := beq_nat h3
    subst h3
    rw [lenX_eq] at h4
    rw [k1, k2, k3]
    exact conv_bytes hv rfl (beq_nat h1) h2 (by simpa using blt_true.1 h4) hl
  | ref id sz off len =>
    rw [hv] at hr
    obtain ⟨h1, hr1⟩ := gd_some (show gd (Nat.beq (T.ty d).kind 4) _ = some r from hr)
    obtain ⟨h2, hr2⟩ := gd_some hr1
    obtain ⟨h3, hr3⟩ := gd_some hr2
    obtain ⟨h4, hr4⟩ := gd_some hr3
    obtain ⟨sz', rows, _, ho, hr5⟩ := arrX_some hr4
    obtain ⟨h5, hr6⟩ := gd_some hr5
    obtain ⟨h6, hr7⟩ := gd_some hr6
    obtain ⟨l, hl, hr8⟩ := opt_some hr7
    obtain ⟨k1, k2, k3⟩ := some_VS hr8
    rw [T.tyOK] at h1
    have h3 := beq_nat h3
    have h5 := beq_nat h5
    subst h3; subst h5
    rw [lenX_eq] at h6
    have h6 := beq_nat h6
    have h4 := blt_true.1 h4
    rw [takeX_eq, dropX_eq] at hl h6
    rw [k1, k2, k3]
    exact conv_bytes hv (by unfold srcRows; simp only [ho]; simp) (beq_nat h1) h2 (by omega) hl
  | lit v =>
    rw [hv] at hr
    have hr0 : strV v (fun b => gd (bytT P d) (gd (P.underlying s).isSome (some (⟨.tree 1 (rowsB (byB b)), n, h⟩ : VS)))) (x_convI s d x T call e n h) = some r := hr
    clear hr
    unfold strV at hr0
    split at hr0
    · rename_i b
      obtain ⟨h1, hr1⟩ := gd_some hr0
      obtain ⟨h2, hr2⟩ := gd_some hr1
      obtain ⟨k1, k2, k3⟩ := some_VS hr2
      obtain ⟨et, hd1, hd2⟩ := bytT_some h1
      obtain ⟨us, hs⟩ := Option.isSome_iff_exists.1 h2
      rw [k1, k2, k3]
      refine StepOK.of_out fun γ a hsim ha hd => ?_
      have ex := ev_rel hsim ha x
      rw [← evX_eq x e (obsA n h), hv] at ex
      have hrun := Lib.run_convert_string_bytes (P := P) γ.w s d et b hs hd1 hd2
      let w' := Lib.bytesWorld γ.w et b
      have hsim' := hsim.newZ (w' := w') (fun k hk => Lib.bytesWorld_at_old γ.w et b k hk) (Lib.bytesWorld_size γ.w et b)
      have hcells : ∀ r c x, cellAt (rowsB (byB b)) r c = some x → c = 0 ∧ r < (byB b).length ∧ x = .lit (.int .u8 (Int.ofNat ((byB b).getD r 0).toNat)) := by
        intro r c x hx
        rw [rowsB_eq] at hx
        simp only [cellAt, List.getElem?_map] at hx
        cases hb : (byB b)[r]? with
        | none => rw [hb] at hx; simp at hx
        | some y =>
          rw [hb] at hx
          simp only [Option.map_some, Option.bind_some] at hx
          have hlt := (List.getElem?_eq_some_iff.1 hb).1
          cases c with
          | zero =>
            simp only [List.getElem?_cons_zero, Option.some.injEq] at hx
            refine ⟨rfl, hlt, ?_⟩
            rw [← hx, List.getD_eq_getElem?_getD, hb]; rfl
          | succ c => simp at hx
      have hsz : b.size = (rowsB (byB b)).length := by rw [rowsB_eq, List.length_map, str_size, lenX_eq]; simp
      have htr : TreeR w' (fun z => γ.Z z ∨ z = γ.w.heap.size) (.tree 1 (rowsB (byB b))) (.slice (some ⟨γ.w.heap.size, 0, none⟩) b.size (grownCap γ.w b.size 0 et)) := by
        rw [hsz]
        refine .tree 1 _ γ.w.heap.size 0 _ (fun r _ => .int .u8 (Int.ofNat ((byB b).getD r 0).toNat)) (.inr rfl) (fun row hrow => ?_) ?_ (fun r c x hx => ?_) (fun r c x hx => ?_)
        · rw [rowsB_eq] at hrow
          obtain ⟨y, _, rfl⟩ := List.mem_map.1 hrow
          rfl
        · rw [← hsz]; exact grownCap_ge γ.w b.size 0 et
        · obtain ⟨rfl, hlt, rfl⟩ := hcells r c x hx
          have := Lib.bytesWorld_cell γ.w et b r (by rw [str_size, lenX_eq]; simpa using hlt)
          show (Lib.bytesWorld γ.w et b).cell? ⟨γ.w.heap.size, 0 + (r * 1 + 0), none⟩ = _
          rw [Nat.mul_one, Nat.add_zero, Nat.zero_add]
          exact this
        · obtain ⟨rfl, hlt, rfl⟩ := hcells r c x hx
          exact .lit _
      refine out_put' (K := (· = (⟨envA e, obsA n h⟩ : St).put dst (.tree 1 (rowsB (byB b))))) (σ1 := ⟨envA e, obsA n h⟩) (γ1 := { γ with w := w', Z := fun b => γ.Z b ∨ b = γ.w.heap.size }) ?_ hsim' ha hd (.frz _ _ htr) rfl ?_
      · exact { eos := rfl, tape := rfl, output := rfl, size := by have := Lib.bytesWorld_size γ.w et b; show γ.w.heap.size ≤ (Lib.bytesWorld γ.w et b).heap.size; omega, keep := fun j hj _ => Lib.bytesWorld_at_old γ.w et b j hj, z0 := fun _ h => .inl h, z1 := fun z hz => by
                  rcases hz with h | rfl
                  · exact .inl h
                  · exact .inr (.inr (Nat.le_refl _)), own := fun _ h => .inl h, len := Nat.le_refl _, old := fun i _ ⟨o, ho, hg⟩ => ⟨rfl, o, o, ho, ho, Ob.like_refl hg⟩, drawn := Nat.le_succ _ }
      · simp only [execOp, ex.lit_inv, Sem.run_bind, hrun, Result.andThen_ok, Sem.run_pure]; rfl
    · exact .of_snd (x_convI_ok (T := T) (call := call) hr0)
  | _ => rw [hv] at hr; exact absurd hr (by intro e; cases e)
end

/-! ### calls -/
theorem StepOK.of_bcall {dst : Option Tmp} {f : Operand} {args : Array Operand} {ats : Array TypeId} {tt : TypeId} {p : String} {af : Array Edge} {g : Option (Nat × Bool)} {σ : St} {fid : FuncId} {first : List AV} {res : AV} {objs' : List Ob}
    (hf : ev σ f = .bfn fid first) (hh : Holds P fid (first ++ args.toList.map (ev σ)) σ.objs res objs') (hl : σ.objs.length ≤ objs'.length) :
    StepOK P N ⟨dst, .call { callee := .value f, args := args, argTypes := ats }, tt, p, af, g⟩ σ ((⟨σ.env, objs'⟩ : St).put dst res) := by
  intro os γ0 a w Q next hok hd hn
  obtain ⟨hdf, hsz, γ, rfl, ha, hs, hf'⟩ := hok
  have hd' : ∀ d, dst = some d → d < a.tmps.size := fun d h => by rw [hsz]; exact hd d h
  have hfr := ev_rel hs ha f
  rw [hf] at hfr
  obtain ⟨cvs, hcv, hcs, hcr⟩ : ∃ cvs, a.eval f = .func (.func fid) cvs #[] ∧ cvs.size = first.length ∧ ∀ (j : Nat) x, first[j]? = some x → RelV σ.objs γ.w γ.Z γ.blk x (cvs.getD j Go.undef) := by
    generalize a.eval f = cv at hfr
    cases hfr with
    | frz _ _ h => cases h
    | bfn _ _ cvs h1 h2 => exact ⟨cvs, rfl, h1, h2⟩
  have hargs : ∀ (j : Nat) d, (first ++ args.toList.map (ev σ))[j]? = some d → RelV σ.objs γ.w γ.Z γ.blk d ((cvs ++ args.map a.eval).getD j Go.undef) := by
    intro j d hj
    simp only [Array.getD_eq_getD_getElem?]
    rcases Nat.lt_or_ge j cvs.size with hlt | hge
    · rw [List.getElem?_append_left (by omega)] at hj
      rw [Array.getElem?_append_left hlt]
      have := hcr j d hj
      simpa [Array.getD_eq_getD_getElem?] using this
    · rw [List.getElem?_append_right (by omega)] at hj
      rw [Array.getElem?_append_right hge]
      rw [← hcs] at hj
      simp only [List.getElem?_map, Array.getElem?_toList, Array.getElem?_map] at hj ⊢
      cases hx : args[j - cvs.size]? with
      | none => simp [hx] at hj
      | some y => simp [hx] at hj ⊢; subst hj; exact ev_rel hs ha y
  have hcall := call_sound hs (argv := cvs ++ args.map a.eval) (by simp [hcs]) hargs (K := fun v σ' => (σ'.put dst v) = (⟨σ.env, objs'⟩ : St).put dst res) (by
    have := callK_all (P := P) (σ := σ) (dst := dst) (K := (· = (⟨σ.env, objs'⟩ : St).put dst res)) hh hl rfl
    exact this)
  obtain ⟨⟨fn, hfn, hname, hbody⟩, _⟩ := hh
  have hr : (execOp a.eval ⟨dst, .call { callee := .value f, args := args, argTypes := ats }, tt, p, af, g⟩).run P γ.w = .ok (.enter fid (cvs ++ args.map a.eval)) γ.w := by
    have hn1 : ¬ fn.name = "runtime.NumGoroutine" := by simpa using hname
    have hn2 : ¬ fn.body = none := by intro e; rw [e] at hbody; simp at hbody
    simp [execOp, resolve, hcv, Deferred.ofValue, invoke, callFunc, hfn, hn1, hn2]
  unfold Oper.wp
  rw [hr]
  show Calls P fid _ _ _
  refine hcall.mono ?_
  rintro e w' ⟨cv, v, σ', γ', rfl, rfl, ht', hs', hfr', hv, hK, henv⟩
  refine hn _ _ ⟨by rw [put_defers]; exact hdf, by rw [put_size]; exact hsz, { γ' with tmps := (a.put dst cv).tmps }, rfl, rfl, ?_, ?_⟩
  · rw [← hK]; exact put_sim hs' (by rw [ht', ha]) hd' hv
  · rw [← hK, objs_put]
    exact (hf'.trans hfr').put _

/-- a function that the model has itself -/
noncomputable def natvX (T : Env P) (f : Nat) (s : ByteArray) (c : Int) : Option Value :=
  ifX (Nat.beq (T.nat f) 1) (some (.int .i64 (Lib.indexByte (byB s) c.toNat.toUInt8))) (ifX (Nat.beq (T.nat f) 2) (some (.int .i64 (Lib.countByte (byB s) c.toNat.toUInt8 : Nat))) none)
noncomputable def natC (T : Env P) (f : Nat) (args : Array Operand) (e : E3) (n : Nat) (h : E5) : Option VS :=
  match args.toList with
  | [x, y] => litK (evX x e) (fun v => strK v (fun s => litK (evX y e) (fun w => intK w (fun k c => gd (Nat.beq (kIdx k) (kIdx .u8)) (opt (natvX T f s c) fun u => some ⟨.lit u, n, h⟩)) none) none) none) none
  | _ => none

theorem natC_ok {dst : Option Tmp} {f : Operand} {args : Array Operand} {ats : Array TypeId} {tt : TypeId} {p : String} {af : Array Edge} {g : Option (Nat × Bool)} {T : Env P} {e : E3} {n : Nat} {h : E5} {r : VS} {fid : FuncId}
    (hf : evX f e = .fn fid []) (hr : natC T fid args e n h = some r) : StepOK P N ⟨dst, .call { callee := .value f, args := args, argTypes := ats }, tt, p, af, g⟩ ⟨envA e, obsA n h⟩ ((⟨envA e, obsA r.n r.ob⟩ : St).put dst r.v) := by
  unfold natC at hr
  split at hr
  · rename_i x y hxa
    obtain ⟨v, hv, hr1⟩ := litK_some hr
    obtain ⟨s, rfl, hr2⟩ := strK_some hr1
    obtain ⟨w, hw, hr3⟩ := litK_some hr2
    cases w with
    | int k c =>
      obtain ⟨h1, hr4⟩ := gd_some (show gd (Nat.beq (kIdx k) (kIdx .u8)) _ = some r from hr3)
      have h1 := kIdx_inj h1
      subst h1
      obtain ⟨u, hu, hr5⟩ := opt_some hr4
      obtain ⟨k1, k2, k3⟩ := some_VS hr5
      rw [k1, k2, k3, list_arr hxa]
      refine StepOK.of_val fun γ a hs E => ⟨u, ?_, .lit _⟩
      have e1 := E x; rw [hv] at e1
      have e2 := E y; rw [hw] at e2
      have e3 := E f; rw [hf] at e3
      obtain ⟨cvs, hcv, hcs, _⟩ := e3.fn_inv
      have hcs : cvs = #[] := Array.eq_empty_of_size_eq_zero (by simpa using hcs)
      subst hcs
      have hrun : (callFunc fid #[.string s, .int .u8 c]).run P γ.w = .ok (.value u) γ.w := by
        unfold natvX at hu
        rcases ifX_some hu with ⟨hb, hu⟩ | ⟨_, hu⟩
        · simp only [Option.some.injEq] at hu
          rw [T.natOK1 fid (beq_nat hb) s c γ.w, ← hu]; rfl
        · rcases ifX_some hu with ⟨hb, hu⟩ | ⟨_, hu⟩
          · simp only [Option.some.injEq] at hu
            rw [T.natOK2 fid (beq_nat hb) s c γ.w, ← hu]; rfl
          · cases hu
      simp [execOp, resolve, hcv, Deferred.ofValue, invoke, e1.lit_inv, e2.lit_inv, hrun]
    | _ => exact absurd hr3 (by intro e; cases e)
  · cases hr
end Go.Am
end
