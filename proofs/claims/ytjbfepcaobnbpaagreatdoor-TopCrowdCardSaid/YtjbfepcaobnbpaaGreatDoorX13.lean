import Derived.Test.YtjbfepcaobnbpaaGreatDoorX12
set_option linter.unusedVariables false
set_option linter.unusedSimpArgs false
set_option linter.unnecessarySimpa false
set_option linter.unusedSectionVars false
section
/- NEW OPERATIONS: slices of numbers, written out, as what is only read -/
namespace Go.Am
variable {P : Program} {N : Nat}

theorem run_buildSlice {t : TypeId} {len : Nat} {parts : Array (Nat × Operand)} {σ : St} {γ : Cx} {a : Act} (h : Sim σ γ) (ha : γ.tmps = a.tmps) (hk : (ty P t).kind = 1) {z : List Value} (hz : (ty P (ty P t).elem).zero = some z) {cs : List AV}
    (hf : fillA (fun i => some (i * (ty P (ty P t).elem).size, (ty P (ty P t).elem).size)) ((List.range len).flatMap fun _ => z.map .lit) (parts.toList.map fun p => (p.1, ev σ p.2)) = some cs)
    (hke : (ty P (ty P t).elem).kind ≠ 99) (h0 : 0 < (ty P (ty P t).elem).size) (hzl : z.length = (ty P (ty P t).elem).size) (hbig : len * (ty P (ty P t).elem).size ≤ 16777216) (hs : (parts.toList.all fun p => (cellsOf (ev σ p.2)).all scal) = true) :
    ∃ cur, (Instr.buildSlice t len (parts.map fun (i, x) => (i, a.eval x))).run P γ.w = .ok (.slice (some ⟨γ.w.heap.size, 0, none⟩) len len) (γ.w.alloc (.cells cur (ty P t).elem)) ∧
      CellsR (RelV σ.objs γ.w γ.Z γ.blk) cs cur ∧ cs.length = len * (ty P (ty P t).elem).size := by
  have ht := ty_slice hk
  obtain ⟨i, d, hi, hud, hsize, _, hzero⟩ := ty_info hke
  obtain ⟨zv, hzr, hzc⟩ := run_zero hke hz γ.w
  have hzl' : 0 < z.length := by rw [hzl]; exact h0
  obtain ⟨hl, hr⟩ := parts_rel h ha parts
  obtain ⟨cur, f1, f2⟩ := fill_rel (σ := σ) (γ := γ) _ _ _ _ cs hl hr (fun p hp => by
    simp only [List.mem_map] at hp
    obtain ⟨q, hq, rfl⟩ := hp
    rw [List.all_eq_true] at hs
    exact hs q hq) (zeros_rel z len (len * (ty P (ty P t).elem).size) (by rw [hzl]) hzl') hf
  have hcsl : cs.length = len * (ty P (ty P t).elem).size := by
    have := zeros_rel (os := σ.objs) (w := γ.w) (Z := γ.Z) (blk := γ.blk) z len (len * (ty P (ty P t).elem).size) (by rw [hzl]) hzl'
    have h1 : ∀ (parts : List (Nat × AV)) (cs cs' : List AV) (place : Nat → Option (Nat × Nat)), fillA place cs parts = some cs' → cs'.length = cs.length := by
      intro parts
      induction parts with
      | nil => intro cs cs' place h; simp [fillA] at h; rw [h]
      | cons p parts ih =>
        intro cs cs' place h
        obtain ⟨i, v⟩ := p
        simp only [fillA] at h
        split at h
        · simp at h
        · split at h
          · rw [ih _ _ _ h, setCells_length]
          · simp at h
    rw [h1 _ _ _ _ hf, ← this.1]
    simp
  refine ⟨cur, ?_, f2, hcsl⟩
  have hnb : ¬ (len * (ty P (ty P t).elem).size > 2 ^ 24) := by omega
  by_cases hl0 : len * (ty P (ty P t).elem).size = 0
  · rw [hl0] at f1
    have e0 : ((Array.range 0).map fun x => (#[] : Array Value)[x % (#[] : Array Value).size]!) = ((Array.range 0).map (z.toArray[· % z.toArray.size]!)) := by simp
    simp only [Instr.buildSlice, Sem.run_bind, run_underlying ht, Result.andThen_ok, run_sizeOf hke, if_false, hl0, if_true, Sem.run_pure, Nat.not_lt_zero, gt_iff_lt]
    rw [e0, f1]
    simp [newRow]
  simp only [Instr.buildSlice, Sem.run_bind, run_underlying ht, Result.andThen_ok, run_sizeOf hke, hnb, if_false, hl0, hzr, Sem.run_pure, hzc]
  rw [show ((Array.range (len * (ty P (ty P t).elem).size)).map fun x => z.toArray[x % z.toArray.size]!) = ((Array.range (len * (ty P (ty P t).elem).size)).map (z.toArray[· % z.toArray.size]!)) from rfl, f1]
  simp [newRow]

noncomputable def allL (l : List AV) : Bool := @List.rec AV (fun _ => Bool) true (fun v _ ih => litK v (fun _ => ih) false) l
theorem allL_mem : ∀ {l : List AV}, allL l = true → ∀ v ∈ l, ∃ x, v = .lit x
  | [], _, v, hv => by simp at hv
  | u :: l, h, v, hv => by
    cases u with
    | lit x =>
      rcases List.mem_cons.1 hv with rfl | hv
      · exact ⟨x, rfl⟩
      · exact allL_mem (show allL l = true from h) v hv
    | _ => exact absurd h (by intro e; cases e)

/-- slices of numbers, truth values or strings -/
def scT (k : Nat) : Bool := Nat.beq k 4 || (Nat.beq k 5 || Nat.beq k 6)
noncomputable def x_bsTree (t : TypeId) (len : Nat) (parts : Array (Nat × Operand)) : OpF P := fun T _ e n h =>
  gd (Nat.beq (T.ty t).kind 1) (kOK (T.ty (T.ty t).elem) (opt (T.ty (T.ty t).elem).zero fun z => gd (Nat.blt 0 (T.ty (T.ty t).elem).size) (gd (Nat.beq (lenX z 0) (T.ty (T.ty t).elem).size) (gd (Nat.ble (Nat.mul len (T.ty (T.ty t).elem).size) 16777216)
    (opt (fillX (fun i => some (i * (T.ty (T.ty t).elem).size, (T.ty (T.ty t).elem).size)) (prtX e parts.toList) ((List.range len).flatMap fun _ => z.map .lit)) fun cs =>
      gd (allL cs) (some ⟨.tree (T.ty (T.ty t).elem).size (toRows (T.ty (T.ty t).elem).size len cs), n, h⟩))))) none)
def andB2 (a b : Bool) : Bool := bif a then b else false
noncomputable def x_bs2 (t : TypeId) (len : Nat) (parts : Array (Nat × Operand)) : OpF P := fun T c e n h =>
  ifX (andB2 (Nat.blt 0 len) (scT (T.ty (T.ty t).elem).kind)) (x_bsTree t len parts T c e n h) (x_buildSlice t len parts T c e n h)

section
variable {dst : Option Tmp} {tt : TypeId} {p : String} {af : Array Edge} {g : Option (Nat × Bool)} {T : Env P} {call : CallX} {e : E3} {n : Nat} {h : E5} {r : VS}

theorem x_bsTree_ok {t : TypeId} {len : Nat} {parts : Array (Nat × Operand)} (hr : x_bsTree t len parts T call e n h = some r) :
    StepOK P N ⟨dst, .buildSlice t len parts, tt, p, af, g⟩ ⟨envA e, obsA n h⟩ ((⟨envA e, obsA r.n r.ob⟩ : St).put dst r.v) := by
  simp only [x_bsTree, T.tyOK] at hr
  obtain ⟨hk, hr⟩ := gd_some hr
  obtain ⟨h1, hr⟩ := kOK_some hr
  obtain ⟨z, hz, hr⟩ := opt_some hr
  obtain ⟨h2, hr⟩ := gd_some hr
  obtain ⟨h3, hr⟩ := gd_some hr
  obtain ⟨h4, hr⟩ := gd_some hr
  obtain ⟨cs, hcs, hr⟩ := opt_some hr
  obtain ⟨h5, hr⟩ := gd_some hr
  obtain ⟨k1, k2, k3⟩ := some_VS hr
  obtain ⟨f1, f2⟩ := fillX_some hcs
  rw [prtX_eq e _ (obsA n h)] at f1 f2
  rw [all_map] at f2
  rw [lenX_eq] at h3
  rw [k1, k2, k3]
  have h2 := blt_true.1 h2
  refine StepOK.of_out fun γ a hsim ha hd => ?_
  obtain ⟨cur, hrun, hrel, hcsl⟩ := run_buildSlice (P := P) hsim ha (beq_nat hk) hz f1 h1 h2 (by simpa using beq_nat h3) (Nat.le_of_ble_eq_true h4) f2
  let w' := γ.w.alloc (.cells cur (ty P t).elem)
  have hheap : w'.heap = γ.w.heap.push (.cells cur (ty P t).elem (0, 0)) := rfl
  have hold : ∀ k, k < γ.w.heap.size → w'.heap[k]? = γ.w.heap[k]? := fun k hk => by
    rw [hheap, Array.getElem?_push]
    simp [Nat.ne_of_lt hk]
  have hsz' : w'.heap.size = γ.w.heap.size + 1 := by rw [hheap]; simp
  have hnew : w'.heap[γ.w.heap.size]? = some (.cells cur (ty P t).elem (0, 0)) := by rw [hheap]; simp
  have hsim' := hsim.newZ (w' := w') hold hsz'
  have hcell : ∀ r c x, cellAt (toRows (ty P (ty P t).elem).size len cs) r c = some x → ∃ v, x = .lit v ∧ cur.getD (r * (ty P (ty P t).elem).size + c) Go.undef = v ∧ r * (ty P (ty P t).elem).size + c < cur.size := by
    intro r c x hx
    have hx' := toRows_cell _ _ _ _ _ _ hx
    obtain ⟨v, rfl⟩ := allL_mem h5 x (List.mem_of_getElem? hx')
    have hlt := (List.getElem?_eq_some_iff.1 hx').1
    exact ⟨v, rfl, (hrel.2 _ _ hx').lit_inv, by rw [hrel.1]; exact hlt⟩
  have htr : TreeR w' (fun z => γ.Z z ∨ z = γ.w.heap.size) (.tree (ty P (ty P t).elem).size (toRows (ty P (ty P t).elem).size len cs)) (.slice (some ⟨γ.w.heap.size, 0, none⟩) len len) := by
    have hl : (toRows (ty P (ty P t).elem).size len cs).length = len := toRows_length _ _ _
    have := TreeR.tree (w := w') (Z := fun z => γ.Z z ∨ z = γ.w.heap.size) (ty P (ty P t).elem).size (toRows (ty P (ty P t).elem).size len cs) γ.w.heap.size 0 len (fun r c => cur.getD (r * (ty P (ty P t).elem).size + c) Go.undef) (.inr rfl) (toRows_rows _ _ _ (by omega)) (by omega)
      (fun r c x hx => by
        obtain ⟨v, _, h2, h3⟩ := hcell r c x hx
        rw [Nat.zero_add]
        exact cell_getD hnew h3)
      (fun r c x hx => by
        obtain ⟨v, rfl, h2, _⟩ := hcell r c x hx
        rw [h2]; exact .lit v)
    rw [hl] at this
    exact this
  refine out_put' (K := (· = (⟨envA e, obsA n h⟩ : St).put dst (.tree (ty P (ty P t).elem).size (toRows (ty P (ty P t).elem).size len cs)))) (σ1 := ⟨envA e, obsA n h⟩) (γ1 := { γ with w := w', Z := fun b => γ.Z b ∨ b = γ.w.heap.size }) ?_ hsim' ha hd (.frz _ _ htr) rfl ?_
  · exact { eos := rfl, tape := rfl, output := rfl, size := by show γ.w.heap.size ≤ w'.heap.size; omega, keep := fun j hj _ => hold j hj, z0 := fun _ h => .inl h, z1 := fun z hz => by
              rcases hz with h | rfl
              · exact .inl h
              · exact .inr (.inr (Nat.le_refl _)), own := fun _ h => .inl h, len := Nat.le_refl _, old := fun i _ ⟨o, ho, hg⟩ => ⟨rfl, o, o, ho, ho, Ob.like_refl hg⟩, drawn := Nat.le_refl _ }
  · simp only [execOp, Sem.run_bind, hrun, Result.andThen_ok, Sem.run_pure]; rfl

theorem x_bs2_ok {t : TypeId} {len : Nat} {parts : Array (Nat × Operand)} (hr : x_bs2 t len parts T call e n h = some r) :
    StepOK P N ⟨dst, .buildSlice t len parts, tt, p, af, g⟩ ⟨envA e, obsA n h⟩ ((⟨envA e, obsA r.n r.ob⟩ : St).put dst r.v) := by
  unfold x_bs2 at hr
  rcases ifX_some hr with ⟨_, hr⟩ | ⟨_, hr⟩
  · exact x_bsTree_ok (T := T) (call := call) hr
  · exact .of_snd (x_buildSlice_ok (T := T) (call := call) hr)
end
end Go.Am
end
section
/- THE OPERATIONS TOGETHER (old ones), and a step with its put -/
namespace Go.Am
variable {P : Program} {N : Nat}

noncomputable def noX : OpF P := fun _ _ _ _ _ => none
noncomputable def x_bi (b : Builtin) : Array Operand → Array TypeId → OpF P :=
  match b with
  | .len => x_len2
  | .append => x_append2
  | .min => fun a _ => x_min a
  | .max => fun a _ => x_max2 a
  | .copy => x_copy
  | _ => fun _ _ => noX
noncomputable def mapX (l : List Operand) (e : E3) (t : List AV) : List AV := @List.rec Operand (fun _ => List AV) t (fun x _ ih => evX x e :: ih) l
theorem mapX_eq (l : List Operand) (e : E3) (os : List Ob) (t : List AV) : mapX l e t = l.map (ev ⟨envA e, os⟩) ++ t := by
  induction l with
  | nil => rfl
  | cons x l ih => show evX x e :: mapX l e t = _; rw [ih, evX_eq x e os]; rfl
noncomputable def catA (l m : List AV) : List AV := @List.rec AV (fun _ => List AV) m (fun a _ ih => a :: ih) l
theorem catA_eq (l m : List AV) : catA l m = l ++ m := by
  induction l with
  | nil => rfl
  | cons a l ih => show a :: catA l m = _; rw [ih]; rfl
noncomputable def x_val (f : Operand) (args : Array Operand) : OpF P := fun T call e n h =>
  fnK (evX f e) (fun g caps => ifX (Nat.beq (T.nat g) 0) (opt (call g (mapX args.toList e caps) n h) fun r => gd (Nat.ble n r.n) (some r)) (nilL caps (natC T g args e n h)))
    (fun g first => opt (call g (catA first (mapX args.toList e [])) n h) fun r => gd (Nat.ble n r.n) (some r)) none
noncomputable def x_call (c : Call) : OpF P :=
  @Callee.rec (fun _ => Array Operand → Array TypeId → OpF P) (fun f args _ => x_val f args) (fun _ _ _ _ => noX) x_bi c.callee c.args c.argTypes

noncomputable def opX (op : Op) : OpF P :=
  @Op.rec (fun _ => OpF P) x_move x_move x_pick x_alloc x_box x_build x_bs2 (fun _ _ _ _ => noX) x_load x_store (fun _ => noX) (fun _ => noX) x_nilCheck x_bin2 x_unOp x_conv2 (fun _ _ => noX) x_makeInterface x_makeFunc2 x_makeMap (fun _ _ => noX) x_makeSlice x_slice2 x_fieldAddr x_field x_indexAddr x_index x_lookup x_mapUpdate (fun _ _ _ => noX) (fun _ _ _ _ => noX) (fun _ _ => noX) (fun _ _ => noX) (fun _ => noX) (fun _ _ _ _ => noX) x_extract x_call (fun _ => noX) (fun _ => noX) (fun _ => noX) (fun _ _ => noX) (fun _ _ _ => noX) (fun _ _ => noX) op

/-- what a table of calls promises -/
def CallOK (P : Program) (call : CallX) : Prop := ∀ f args n h r, call f args n h = some r → Holds P f args (obsA n h) r.v (obsA r.n r.ob)

theorem opX_ok {T : Env P} {call : CallX} (hc : CallOK P call) {o : Oper} {e : E3} {n : Nat} {h : E5} {r : VS} (hr : opX o.op T call e n h = some r) :
    StepOK P N o ⟨envA e, obsA n h⟩ ((⟨envA e, obsA r.n r.ob⟩ : St).put o.dst r.v) := by
  obtain ⟨dst, op, tt, p, af, g⟩ := o
  cases op with
  | move x => exact .of_snd (x_move_ok (T := T) (call := call) hr)
  | assign x => exact .of_snd (x_assign_ok (T := T) (call := call) hr)
  | pick c a b => exact .of_snd (x_pick_ok (T := T) (call := call) hr)
  | alloc t => exact .of_snd (x_alloc_ok (T := T) (call := call) hr)
  | box t x => exact .of_snd (x_box_ok (T := T) (call := call) hr)
  | build t parts => exact .of_snd (x_build_ok (T := T) (call := call) hr)
  | buildSlice t len parts => exact x_bs2_ok (T := T) (call := call) hr
  | load t a => exact .of_snd (x_load_ok (T := T) (call := call) hr)
  | store t a x => exact .of_snd (x_store_ok (T := T) (call := call) hr)
  | nilCheck x => exact .of_snd (x_nilCheck_ok (T := T) (call := call) hr)
  | binOp op t x y u => exact x_bin2_ok (T := T) (call := call) hr
  | unOp op t x => exact .of_snd (x_unOp_ok (T := T) (call := call) hr)
  | convert s d x => exact x_conv2_ok (T := T) (call := call) hr
  | makeInterface t x => exact .of_snd (x_makeInterface_ok (T := T) (call := call) hr)
  | makeFunc fn a b => exact x_makeFunc2_ok (T := T) (call := call) hr
  | makeSlice t l c => exact .of_snd (x_makeSlice_ok (T := T) (call := call) hr)
  | slice t x lo hi mx => exact x_slice2_ok (T := T) (call := call) hr
  | index t x i => exact .of_snd (x_index_ok (T := T) (call := call) hr)
  | lookup t x i ok => exact x_lookup_ok (T := T) (call := call) hr
  | makeMap t r => exact .of_snd (x_makeMap_ok (T := T) (call := call) hr)
  | mapUpdate t m k x => exact x_mapUpdate_ok (T := T) (call := call) hr
  | fieldAddr s x f => exact .of_snd (x_fieldAddr_ok (T := T) (call := call) hr)
  | field s x f => exact .of_snd (x_field_ok (T := T) (call := call) hr)
  | indexAddr t x i => exact .of_snd (x_indexAddr_ok (T := T) (call := call) hr)
  | extract x i => exact .of_snd (x_extract_ok (T := T) (call := call) hr)
  | call c =>
    obtain ⟨callee, args, ats⟩ := c
    cases callee with
    | builtin b =>
      cases b with
      | len => exact x_len2_ok (T := T) (call := call) hr
      | append => exact x_append2_ok (T := T) (call := call) hr
      | min => exact .of_snd (x_min_ok (T := T) (call := call) hr)
      | max => exact x_max2_ok (T := T) (call := call) hr
      | copy => exact .of_snd (x_copy_ok (T := T) (call := call) hr)
      | _ => exact absurd hr (by intro e; cases e)
    | value f =>
      have hr : x_val f args T call e n h = some r := hr
      simp only [x_val] at hr
      have hf := evX_eq f e (obsA n h)
      cases hv : evX f e with
      | fn g caps =>
        rw [hv] at hr hf
        rcases ifX_some (show ifX (Nat.beq (T.nat g) 0) _ _ = some r from hr) with ⟨_, hr⟩ | ⟨_, hr⟩
        · obtain ⟨r', h1, hr⟩ := opt_some hr
          obtain ⟨h2, hr⟩ := gd_some hr
          simp only [Option.some.injEq] at hr
          subst hr
          have hh := hc _ _ _ _ _ h1
          rw [mapX_eq _ _ (obsA n h)] at hh
          exact StepOK.of_call (σ := ⟨envA e, obsA n h⟩) hf.symm hh (by rw [obsA_length, obsA_length]; exact Nat.le_of_ble_eq_true h2)
        · obtain ⟨hcn, hr⟩ := nilL_some hr
          rw [hcn] at hv
          exact natC_ok hv hr
      | bfn g first =>
        rw [hv] at hr hf
        obtain ⟨r', h1, hr⟩ := opt_some (show opt (call g _ n h) _ = some r from hr)
        obtain ⟨h2, hr⟩ := gd_some hr
        simp only [Option.some.injEq] at hr
        subst hr
        have hh := hc _ _ _ _ _ h1
        rw [catA_eq, mapX_eq _ _ (obsA n h), List.append_nil] at hh
        exact StepOK.of_bcall (σ := ⟨envA e, obsA n h⟩) hf.symm hh (by rw [obsA_length, obsA_length]; exact Nat.le_of_ble_eq_true h2)
      | _ => rw [hv] at hr; exact absurd hr (by intro e; cases e)
    | invoke a b => exact absurd hr (by intro e; cases e)
  | _ => exact absurd hr (by intro e; cases e)
end Go.Am
end
section
/- STEPS BEHIND GUARDS, AND REGIONS IN THE TEXT's ORDER -/
namespace Go.Am
variable {P : Program} {N : Nat}

/-- a step of a region, its guard looked at -/
def GStep (P : Program) (N : Nat) (ops : Array Oper) (o : Oper) (σ σ' : St) : Prop :=
  match o.guard with
  | none => StepOK P N o σ σ'
  | some (j, want) =>
    match (ops[j]?).bind (·.dst) with
    | none => False
    | some d =>
      match σ.env d with
      | .lit (.bool b) => (b = want → StepOK P N o σ σ') ∧ (b ≠ want → σ' = σ.put o.dst (.lit (.tuple #[])))
      | .lit (.tuple vs) => vs = #[] ∧ σ' = σ.put o.dst (.lit (.tuple #[]))
      | _ => False

theorem gstep_wpOp {os : List Ob} {γ0 : Cx} {ops : Array Oper} (hd : ∀ o ∈ ops.toList, ∀ d, o.dst = some d → d < N) {i : Nat} {o : Oper} (hi : ops[i]? = some o) {σ σ' : St}
    (h : GStep P N ops o σ σ') {a : Act} {w : World} (hok : Okay N os γ0 σ a w) {Q : Exit → Act → World → Prop} {next : Act → World → Prop} (hn : ∀ a' w', Okay N os γ0 σ' a' w' → next a' w') : wpOp P ops Q i next a w := by
  have hmem : o ∈ ops.toList := List.mem_of_getElem? (by simpa using hi)
  unfold wpOp
  simp only [hi]
  unfold GStep at h
  cases hg : o.guard with
  | none =>
    simp only [hg] at h
    have hw : Region.wanted o (yielded ops a.tmps) = true := by simp [Region.wanted, hg]
    rw [if_pos hw]
    left
    exact h os γ0 a w Q next hok (hd o hmem) hn
  | some jw =>
    obtain ⟨j, want⟩ := jw
    simp only [hg] at h
    cases hdj : (ops[j]?).bind (·.dst) with
    | none => simp [hdj] at h
    | some d =>
      simp only [hdj] at h
      split at h
      · rename_i b he
        obtain ⟨hdf, hsz, γ, rfl, ha, hs, hf⟩ := hok
        have hslot := hs.slots d
        rw [he, ha] at hslot
        have hv := hslot.lit_inv
        have hy : yielded ops a.tmps j = some b := by
          unfold yielded
          rw [hdj]
          have : a.tmps[d]? = some (.bool b) := by
            rw [Array.getD_eq_getD_getElem?] at hv
            cases hx : a.tmps[d]? with
            | none => rw [hx] at hv; simp [Go.undef] at hv
            | some y => rw [hx] at hv; simp at hv; rw [hv]
          simp [this]
        by_cases hbw : b = want
        · have hw : Region.wanted o (yielded ops a.tmps) = true := by simp [Region.wanted, hg, hy, hbw]
          rw [if_pos hw]
          left
          exact (h.1 hbw) os γ0 a γ.w Q next ⟨hdf, hsz, γ, rfl, ha, hs, hf⟩ (hd o hmem) hn
        · have hw : Region.wanted o (yielded ops a.tmps) = false := by simp [Region.wanted, hg, hy, hbw]
          rw [if_neg (by rw [hw]; simp)]
          obtain rfl := h.2 hbw
          refine hn _ _ ⟨by rw [put_defers]; exact hdf, by rw [put_size]; exact hsz, { γ with tmps := (a.put o.dst Go.undef).tmps }, rfl, rfl, put_sim hs ha (fun d h => by rw [hsz]; exact hd o hmem d h) (.lit _), ?_⟩
          rw [objs_put]; exact hf.put _
      · rename_i vs he
        obtain ⟨hdf, hsz, γ, rfl, ha, hs, hf⟩ := hok
        have hslot := hs.slots d
        rw [he, ha] at hslot
        have hv := hslot.lit_inv
        have hy : yielded ops a.tmps j = none := by
          unfold yielded
          rw [hdj]
          rw [Array.getD_eq_getD_getElem?] at hv
          cases hx : a.tmps[d]? with
          | none => simp [hx]
          | some y => rw [hx] at hv; simp at hv; subst hv; simp [hx]
        have hw : Region.wanted o (yielded ops a.tmps) = false := by simp [Region.wanted, hg, hy]
        rw [if_neg (by rw [hw]; simp)]
        obtain rfl := h.2
        refine hn _ _ ⟨by rw [put_defers]; exact hdf, by rw [put_size]; exact hsz, { γ with tmps := (a.put o.dst Go.undef).tmps }, rfl, rfl, put_sim hs ha (fun d h => by rw [hsz]; exact hd o hmem d h) (.lit _), ?_⟩
        rw [objs_put]; exact hf.put _
      · exact h.elim

/-! ### what a step hangs on -/
end Go.Am
end
section
/- REGIONS IN THE TEXT's ORDER -/
namespace Go.Am
variable {P : Program} {N n0 : Nat}

def Runs (P : Program) (N : Nat) (ops : Array Oper) : List Oper → St → St → Prop
  | [], σ, τ => τ = σ
  | o :: r, σ, τ => ∃ σ1, GStep P N ops o σ σ1 ∧ Runs P N ops r σ1 τ

theorem runs_wpOps {os : List Ob} {γ0 : Cx} {ops : Array Oper} (hd : ∀ o ∈ ops.toList, ∀ d, o.dst = some d → d < N) {τ : St} {Q : Exit → Act → World → Prop}
    (hQ : ∀ a' w', Okay N os γ0 τ a' w' → Q .normal a' w') : ∀ (l : List Oper) (i : Nat) (σ : St) (a : Act) (w : World), ops.toList.drop i = l → Runs P N ops l σ τ → Okay N os γ0 σ a w →
      wpOps P ops Q (List.range' i l.length) a w
  | [], i, σ, a, w, _, h, hok => by
    have h : τ = σ := h
    subst h
    simpa [wpOps] using hQ _ _ hok
  | o :: r, i, σ, a, w, hl, h, hok => by
    obtain ⟨σ1, h1, h2⟩ := h
    have hi : ops[i]? = some o := by
      have : (ops.toList.drop i)[0]? = some o := by rw [hl]; rfl
      simpa using this
    have hr : ops.toList.drop (i + 1) = r := by
      have := congrArg List.tail hl
      simpa [List.tail_drop] using this
    rw [List.length_cons, List.range'_succ, wpOps_cons]
    exact gstep_wpOp hd hi h1 hok fun a' w' hok' => runs_wpOps hd hQ r (i + 1) σ1 a' w' hr h2 hok'

theorem W_regionR {id : Nat} {ops : Array Oper} {σ τ : St} {Q : Exit → St → Prop} (hd : dstOK N ops = true) (h : Runs P N ops ops.toList σ τ) (hq : Q .normal τ) : W P N n0 (.region id ops false) Q σ := by
  intro os γ0 a w _ hok
  refine wp_region ?_
  have := runs_wpOps (P := P) (N := N) (os := os) (γ0 := γ0) (ops := ops) (dstOK_spec hd) (τ := τ) (Q := fun e a' w' => ∃ σ', Q e σ' ∧ Okay N os γ0 σ' a' w') (fun a' w' hok' => ⟨τ, hq, hok'⟩) ops.toList 0 σ a w rfl h hok
  rw [List.range_eq_range']
  simpa using this
end Go.Am
end
section
/- THE STEPS OF A REGION, COMPUTED -/
namespace Go.Am
variable {P : Program} {N n0 : Nat}

/-- a value, its head known -/
noncomputable def fcL {β : Type} (x : Value) (k : AV → β) : β :=
  @Value.rec (fun _ => β) (fun _ => Unit) (fun _ => Unit) (fun b => k (.lit (.bool b))) (fun kk a => k (.lit (.int kk a))) (fun a b => k (.lit (.float a b))) (fun a b c => k (.lit (.complex a b c))) (fun a => k (.lit (.string a))) (fun a => k (.lit (.pointer a))) (fun a b c => k (.lit (.slice a b c))) (fun a => k (.lit (.map a))) (fun a => k (.lit (.chan a)))
    (fun f a b _ _ => k (.lit (.func f a b))) (k (.lit .nilFunc)) (fun t v _ => k (.lit (.iface t v))) (k (.lit .nilIface)) (fun a _ => k (.lit (.agg a))) (fun a _ => k (.lit (.tuple a))) (fun _ _ => ()) () (fun _ _ _ _ => ()) x
noncomputable def fcA {β : Type} (v : AV) (k : AV → β) : β :=
  @AV.rec (fun _ => β) (fun _ => Unit) (fun _ => Unit) (k .undef) (fun x => fcL x k) (fun sz r _ => k (.tree sz r)) (fun c _ => k (.taddr c)) (fun a b c d => k (.ref a b c d)) (fun a b c => k (.ptr a b c)) (fun c _ => k (.agg c)) (fun c _ => k (.tup c)) (fun f c _ => k (.fn f c)) (fun f c _ => k (.bfn f c)) (fun t v _ => k (.ifc t v)) (fun i => k (.mref i))
    () (fun _ _ _ _ => ()) () (fun _ _ _ _ => ()) v
theorem fcL_eq {β : Type} (x : Value) (k : AV → β) : fcL x k = k (.lit x) := by cases x <;> rfl
theorem fcA_eq {β : Type} (v : AV) (k : AV → β) : fcA v k = k v := by
  cases v <;> first | rfl | exact fcL_eq _ _
noncomputable def vsK {β : Type} (r : VS) (k : AV → Nat → E5 → β) : β := @VS.rec (fun _ => β) k r
theorem vsK_eq {β : Type} (r : VS) (k : AV → Nat → E5 → β) : vsK r k = k r.v r.n r.ob := by cases r; rfl
noncomputable def ysK {β : Type} (s : YS) (k : E3 → Nat → E5 → β) : β := @YS.rec (fun _ => β) k s
theorem ysK_eq {β : Type} (s : YS) (k : E3 → Nat → E5 → β) : ysK s k = k s.env s.n s.ob := by cases s; rfl

noncomputable def putY {β : Type} (d : Option Tmp) : AV → E3 → (E3 → Option β) → Option β :=
  @Option.rec Tmp (fun _ => AV → E3 → (E3 → Option β) → Option β) (fun _ e k => k e) (fun t v e k => gd (Nat.blt t 512) (fcA v fun v => p3 t v e k)) d
/-- what a put does to the slots -/
noncomputable def putE (d : Option Tmp) (v : AV) (e : E3) : E3 := @Option.rec Tmp (fun _ => E3) e (fun t => s3 t v e) d
theorem putY_some {β : Type} {d : Option Tmp} {v : AV} {e : E3} {k : E3 → Option β} {b : β} (hr : putY d v e k = some b) :
    k (putE d v e) = some b ∧ (∀ t, d = some t → t < 512) ∧ ∀ os, (⟨envA (putE d v e), os⟩ : St) = (⟨envA e, os⟩ : St).put d v := by
  cases d with
  | none => exact ⟨hr, by simp, fun os => rfl⟩
  | some t =>
    obtain ⟨h1, hr⟩ := gd_some (show gd (Nat.blt t 512) (fcA v fun v => p3 t v e k) = some b from hr)
    rw [fcA_eq, p3_eq] at hr
    have h1 := blt_true.1 h1
    refine ⟨hr, by simpa using h1, fun os => ?_⟩
    show (⟨envA (s3 t v e), os⟩ : St) = ⟨upd (envA e) t v, os⟩
    rw [envA_s3 h1]

/-- a truth value or a tuple -/
noncomputable def grK {R : Type} (v : Value) : ((Bool → R) → (Array Value → R) → R → R) :=
  @Value.rec (fun _ => ((Bool → R) → (Array Value → R) → R → R)) (fun _ => Unit) (fun _ => Unit) (fun x0 k _ _ => k x0) (fun _ _ _ _ d => d) (fun _ _ _ _ d => d) (fun _ _ _ _ _ d => d) (fun _ _ _ d => d) (fun _ _ _ d => d) (fun _ _ _ _ _ d => d) (fun _ _ _ d => d) (fun _ _ _ d => d) (fun _ _ _ _ _ _ _ d => d) (fun _ _ d => d) (fun _ _ _ _ _ d => d) (fun _ _ d => d) (fun _ _ _ _ d => d) (fun x0 _ _ k _ => k x0) (fun _ _ => ()) () (fun _ _ _ _ => ()) v

noncomputable def skV (n : Nat) (h : E5) : Option VS := some ⟨.lit (.tuple #[]), n, h⟩
noncomputable def grdV (T : Env P) (call : CallX) (op : Op) (want : Bool) (v : AV) (e : E3) (n : Nat) (h : E5) : Option VS :=
  litK v (fun w => grK w (fun b => ifX b (ifX want (opX op T call e n h) (skV n h)) (ifX want (skV n h) (opX op T call e n h))) (fun vs => gd (Nat.beq vs.size 0) (skV n h)) none) none
/-- the slot of a guard -/
def gslot (ops : Array Oper) (j : Nat) : Option Tmp := (ops[j]?).bind (·.dst)
noncomputable def gopX (T : Env P) (call : CallX) (ops : Array Oper) (o : Oper) (e : E3) (n : Nat) (h : E5) : Option VS :=
  @Option.rec (Nat × Bool) (fun _ => Option VS) (opX o.op T call e n h) (fun p => opt (gslot ops p.1) fun d => grdV T call o.op p.2 (evX (.tmp d) e) e n h) o.guard

theorem grdV_some {T : Env P} {call : CallX} {op : Op} {want : Bool} {v : AV} {e : E3} {n : Nat} {h : E5} {r : VS} (hr : grdV T call op want v e n h = some r) :
    (∃ b, v = .lit (.bool b) ∧ ((b = want ∧ opX op T call e n h = some r) ∨ (b ≠ want ∧ skV n h = some r))) ∨ (v = .lit (.tuple #[]) ∧ skV n h = some r) := by
  unfold grdV at hr
  cases v with
  | lit w =>
    cases w with
    | bool b =>
      left
      refine ⟨b, rfl, ?_⟩
      have hr : ifX b (ifX want (opX op T call e n h) (skV n h)) (ifX want (skV n h) (opX op T call e n h)) = some r := hr
      cases b <;> cases want <;> first | exact .inl ⟨rfl, hr⟩ | exact .inr ⟨by decide, hr⟩
    | tuple vs =>
      right
      obtain ⟨h1, hr⟩ := gd_some (show gd (Nat.beq vs.size 0) (skV n h) = some r from hr)
      have := Array.eq_empty_of_size_eq_zero (beq_nat h1)
      subst this
      exact ⟨rfl, hr⟩
    | _ => exact absurd hr (by intro e; cases e)
  | _ => exact absurd hr (by intro e; cases e)

theorem gopX_ok {T : Env P} {call : CallX} (hc : CallOK P call) {ops : Array Oper} {o : Oper} {e : E3} {n : Nat} {h : E5} {r : VS} (hr : gopX T call ops o e n h = some r) :
    GStep P N ops o ⟨envA e, obsA n h⟩ ((⟨envA e, obsA r.n r.ob⟩ : St).put o.dst r.v) := by
  unfold GStep
  unfold gopX at hr
  cases hg : o.guard with
  | none => rw [hg] at hr; exact opX_ok hc hr
  | some jw =>
    obtain ⟨j, want⟩ := jw
    rw [hg] at hr
    obtain ⟨d, hd, hr⟩ := opt_some (show opt (gslot ops j) _ = some r from hr)
    have hd : (ops[j]?).bind (·.dst) = some d := hd
    simp only [hd]
    have he : envA e d = evX (.tmp d) e := (evX_eq (.tmp d) e (obsA n h)).symm
    simp only [he]
    rcases grdV_some hr with ⟨b, hb, hr⟩ | ⟨hb, hr⟩
    · simp only [hb]
      refine ⟨fun hbw => ?_, fun hbw => ?_⟩
      · rcases hr with ⟨_, hr⟩ | ⟨hn, _⟩
        · exact opX_ok hc hr
        · exact absurd hbw hn
      · rcases hr with ⟨hy, _⟩ | ⟨_, hr⟩
        · exact absurd hy hbw
        · simp only [skV, Option.some.injEq] at hr
          subst hr; rfl
    · simp only [hb]
      simp only [skV, Option.some.injEq] at hr
      subst hr
      exact ⟨trivial, rfl⟩

noncomputable def opsX (T : Env P) (call : CallX) (ops : Array Oper) (l : List Oper) : E3 → Nat → E5 → Option YS :=
  @List.rec Oper (fun _ => E3 → Nat → E5 → Option YS) (fun e n h => some ⟨e, n, h⟩) (fun o _ ih e n h => opt (gopX T call ops o e n h) fun r => vsK r fun v n' h' => putY o.dst v e fun e' => ih e' n' h') l
theorem opsX_ok {T : Env P} {call : CallX} (hc : CallOK P call) {ops : Array Oper} : ∀ (l : List Oper) (e : E3) (n : Nat) (h : E5) (s' : YS), opsX T call ops l e n h = some s' → Runs P N ops l ⟨envA e, obsA n h⟩ s'.st
  | [], e, n, h, s', hh => by
    have hh : some (⟨e, n, h⟩ : YS) = some s' := hh
    simp only [Option.some.injEq] at hh
    subst hh; exact rfl
  | o :: l, e, n, h, s', hh => by
    obtain ⟨r, h1, h2⟩ := opt_some (show opt (gopX T call ops o e n h) (fun r => vsK r fun v n' h' => putY o.dst v e fun e' => opsX T call ops l e' n' h') = some s' from hh)
    rw [vsK_eq] at h2
    obtain ⟨h3, _, h4⟩ := putY_some h2
    refine ⟨_, gopX_ok hc h1, ?_⟩
    have := opsX_ok hc l _ _ _ s' h3
    rw [← h4]
    exact this
end Go.Am
end
