import Derived.Test.YtohdbmmapbaalaaAm13
namespace Go.Am
variable {P : Program} {N n0 : Nat} {Q : Exit → St → Prop} {σ : St}

theorem W_mono {c : Code} {Q' : Exit → St → Prop} (h : W P N n0 c Q σ) (hq : ∀ e s, Q e s → Q' e s) : W P N n0 c Q' σ :=
  fun os γ0 a w hn hok => wp_mono (h os γ0 a w hn hok) (fun _ _ _ ⟨σ', h1, h2⟩ => ⟨σ', hq _ _ h1, h2⟩)

theorem W_skip (h : Q .normal σ) : W P N n0 .skip Q σ := fun _ _ _ _ _ hok => wp_skip ⟨σ, h, hok⟩
theorem W_label {l : Nat} (h : Q .normal σ) : W P N n0 (.label l) Q σ := fun _ _ _ _ _ hok => wp_label ⟨σ, h, hok⟩
theorem W_exit {id : Nat} (h : Q (.exit id) σ) : W P N n0 (.exit id) Q σ := fun _ _ _ _ _ hok => wp_exit ⟨σ, h, hok⟩
theorem W_ret (h : Q .ret σ) : W P N n0 .ret Q σ := fun _ _ _ _ _ hok => wp_ret ⟨σ, h, hok⟩

def seqQ (P : Program) (N n0 : Nat) (y : Code) (Q : Exit → St → Prop) : Exit → St → Prop
  | .normal, s => W P N n0 y Q s
  | e, s => Q e s

theorem W_seq {x y : Code} (h : W P N n0 x (seqQ P N n0 y Q) σ) : W P N n0 (.seq x y) Q σ := by
  intro os γ0 a w hn hok
  refine wp_seq (wp_mono (h os γ0 a w hn hok) ?_)
  rintro e a' w' ⟨σ', h1, h2⟩
  cases e with
  | normal => exact h1 os γ0 a' w' hn h2
  | exit id => exact ⟨σ', h1, h2⟩
  | goto l => exact ⟨σ', h1, h2⟩
  | ret => exact ⟨σ', h1, h2⟩
  | panic c => exact ⟨σ', h1, h2⟩
  | outgrown => exact ⟨σ', h1, h2⟩

theorem W_cond {c : Operand} {x y : Code} {t : Bool} (hc : ev σ c = .lit (.bool t)) (ht : t = true → W P N n0 x Q σ) (hf : t = false → W P N n0 y Q σ) : W P N n0 (.cond c x y) Q σ := by
  intro os γ0 a w hn hok
  have hcv : a.eval c = .bool t := by
    obtain ⟨_, _, γ, rfl, ha, hs, _⟩ := hok
    have := ev_rel hs ha c
    rw [hc] at this
    exact this.lit_inv
  exact wp_cond_split hcv (fun h => ht h os γ0 a w hn hok) (fun h => hf h os γ0 a w hn hok)

def blockQ (id : Nat) (Q : Exit → St → Prop) : Exit → St → Prop
  | .exit id', s => if id' = id then Q .normal s else Q (.exit id') s
  | e, s => Q e s

theorem W_block {id : Nat} {c : Code} (h : W P N n0 c (blockQ id Q) σ) : W P N n0 (.block id c) Q σ := by
  intro os γ0 a w hn hok
  refine wp_block (wp_mono (h os γ0 a w hn hok) ?_)
  rintro e a' w' ⟨σ', h1, h2⟩
  cases e with
  | exit id' =>
    simp only [blockQ] at h1
    simp only [Exit.inBlock]
    split
    · rename_i he; rw [if_pos he] at h1; exact ⟨σ', h1, h2⟩
    · rename_i he; rw [if_neg he] at h1; exact ⟨σ', h1, h2⟩
  | normal => exact ⟨σ', h1, h2⟩
  | goto l => exact ⟨σ', h1, h2⟩
  | ret => exact ⟨σ', h1, h2⟩
  | panic c => exact ⟨σ', h1, h2⟩
  | outgrown => exact ⟨σ', h1, h2⟩

def loopQ (I : Nat → St → Prop) (n : Nat) (Q : Exit → St → Prop) : Exit → St → Prop
  | .normal, s => ∃ m, m < n ∧ I m s
  | e, s => Q e s

/-- A LOOP: I n: what holds at the head, n a bound of the rounds to come -/
theorem W_loop {c : Code} (I : Nat → St → Prop) (n : Nat) (h0 : I n σ) (round : ∀ n s, I n s → W P N n0 c (loopQ I n Q) s) : W P N n0 (.loop c) Q σ := by
  intro os γ0 a w hn hok b k cs
  have key : ∀ n a w s, I n s → Okay N os γ0 s a w →
      ∃ e a' w', (∃ σ', Q e σ' ∧ Okay N os γ0 σ' a' w') ∧ Arrives P (lone (b.at a (.code c :: .inLoop c :: k)) cs w) b k cs e a' w' := by
    intro n
    induction n using Nat.strongRecOn with
    | _ n ih =>
      intro a w s hI hok
      obtain ⟨e, a₁, w₁, ⟨σ', hq, hok'⟩, harr⟩ := round n s hI os γ0 a w hn hok b (.inLoop c :: k) cs
      cases e with
      | normal =>
        obtain ⟨m, hlt, hI₁⟩ := hq
        obtain ⟨e₂, a₂, w₂, hq₂, harr₂⟩ := ih m hlt a₁ w₁ σ' hI₁ hok'
        exact ⟨e₂, a₂, w₂, hq₂, .of_steps (Steps.trans harr (.one step_inLoop)) harr₂⟩
      | exit id => exact ⟨_, a₁, w₁, ⟨σ', hq, hok'⟩, .pass (x := .inLoop c) rfl (fun _ _ => .inl (by simp)) harr⟩
      | goto l => exact ⟨_, a₁, w₁, ⟨σ', hq, hok'⟩, .pass (x := .inLoop c) rfl (fun _ _ => .inl (by simp)) harr⟩
      | ret => exact ⟨_, a₁, w₁, ⟨σ', hq, hok'⟩, .pass (x := .inLoop c) rfl (fun _ _ => .inl (by simp)) harr⟩
      | panic ch => exact ⟨_, a₁, w₁, ⟨σ', hq, hok'⟩, .pass (x := .inLoop c) rfl (fun _ _ => .inl (by simp)) harr⟩
      | outgrown => exact ⟨_, a₁, w₁, ⟨σ', hq, hok'⟩, .pass (x := .inLoop c) rfl (fun _ _ => .inl (by simp)) harr⟩
  obtain ⟨e, a', w', hq, harr⟩ := key n a w σ h0 hok
  exact ⟨e, a', w', hq, .of_steps (.one step_loop) harr⟩

def dstOK (N : Nat) (ops : Array Oper) : Bool := ops.toList.all fun o => match o.dst with | some d => decide (d < N) | none => true

theorem dstOK_spec {ops : Array Oper} (h : dstOK N ops = true) : ∀ o ∈ ops.toList, ∀ d, o.dst = some d → d < N := by
  intro o ho d hd
  unfold dstOK at h
  rw [List.all_eq_true] at h
  have := h o ho
  simp [hd] at this
  exact this

theorem W_region {id : Nat} {ops : Array Oper} (hd : dstOK N ops = true) (h : opsL P ops ops.toList (Q .normal) σ) : W P N n0 (.region id ops false) Q σ := by
  intro os γ0 a w _ hok
  refine wp_region ?_
  have := opsL_sound (P := P) (N := N) (os := os) (γ0 := γ0) (ops := ops) (dstOK_spec hd) (K := Q .normal) (Q := fun e a' w' => ∃ σ', Q e σ' ∧ Okay N os γ0 σ' a' w') (fun σ' a' w' hK hok' => ⟨σ', hK, hok'⟩)
    ops.toList 0 σ a w rfl h hok
  rw [List.range_eq_range']
  simpa using this

theorem Okay.drawn {os : List Ob} {γ0 : Cx} {a : Act} {w : World} (h : Okay N os γ0 σ a w) : Okay N os γ0 σ a { w with drawn := w.drawn + 1 } := by
  obtain ⟨h1, h2, γ, rfl, h3, h4, h5⟩ := h
  exact ⟨h1, h2, { γ with w := { γ.w with drawn := γ.w.drawn + 1 } }, rfl, h3, h4.sameHeap rfl, h5.sameHeap rfl rfl rfl rfl⟩

/-- A CHANGE OF VIEW: the state is described otherwise -/
def Turns (n0 : Nat) (σ σ' : St) : Prop := ∀ (os : List Ob) (γ0 γ : Cx), os.length = n0 → Sim σ γ → Fr os γ0 σ.objs γ → ∃ γ', γ'.w = γ.w ∧ γ'.tmps = γ.tmps ∧ Sim σ' γ' ∧ Fr os γ0 σ'.objs γ'

theorem W_turn {c : Code} {σ' : St} (h : Turns n0 σ σ') (hw : W P N n0 c Q σ') : W P N n0 c Q σ := by
  intro os γ0 a w hn hok
  obtain ⟨h1, h2, γ, rfl, h3, h4, h5⟩ := hok
  obtain ⟨γ', e1, e2, e3, e4⟩ := h os γ0 γ hn h4 h5
  exact hw os γ0 a γ.w hn ⟨h1, h2, γ', e1, e2.trans h3, e3, e4⟩

/-- slots are forgotten -/
theorem Turns.forget {e : Nat → AV} (h : ∀ k, e k = .undef ∨ e k = σ.env k) : Turns n0 σ ⟨e, σ.objs⟩ := by
  intro os γ0 γ _ hs hf
  refine ⟨γ, rfl, rfl, ⟨fun k => ?_, hs.obs, hs.inj, hs.nz, hs.zlt⟩, hf⟩
  rcases h k with h | h
  · show RelV _ _ _ _ (e k) _
    rw [h]; exact .undef _
  · show RelV _ _ _ _ (e k) _
    rw [h]; exact hs.slots k

/-- the general turn: kept objects, renumbered; with snap: what is not kept is read only from now on -/
theorem Turns.select (sel : List Nat) (snap : Bool) (cobjs : List Ob) (e : Nat → AV) (hnd : sel.Nodup) (hcl : cobjs.length = sel.length)
    (hco : ∀ (j : Nat) o, cobjs[j]? = some o → o = .gone ∨ σ.objs[sel.getD j 0]? = some (renO (rho σ.objs.length sel) o)) (hsl : ∀ i ∈ sel, i < σ.objs.length)
    (hn : n0 ≤ sel.length) (hid : ∀ i, i < n0 → sel.getD i 0 = i)
    (he : ∀ k, e k = .undef ∨ ArgR σ (fun id => ∃ j, j < sel.length ∧ sel.getD j 0 = id ∧ cobjs[j]? ≠ some .gone) (rho σ.objs.length sel) snap (e k) (σ.env k)) : Turns n0 σ ⟨e, cobjs⟩ := by
  intro os γ0 γ hos hs hf
  obtain ⟨γ', h1, h2, h3, h4⟩ := hs.select sel snap cobjs hnd hcl hco hsl e γ.tmps (fun k => (he k).imp id fun h => ⟨_, h, hs.slots k⟩)
  exact ⟨γ', h1, h2, h3, hf.select (by omega) hcl (fun i hi => hid i (by omega)) h1 h4⟩

theorem Turns.trans {σ1 σ2 : St} (h : Turns n0 σ σ1) (k : Turns n0 σ1 σ2) : Turns n0 σ σ2 := by
  intro os γ0 γ hos hs hf
  obtain ⟨γ1, a1, a2, a3, a4⟩ := h os γ0 γ hos hs hf
  obtain ⟨γ2, b1, b2, b3, b4⟩ := k os γ0 γ1 hos a3 a4
  exact ⟨γ2, b1.trans a1, b2.trans a2, b3, b4⟩

/-- a nil slice in a slot becomes a slice of the activation's own -/
theorem Turns.nil (d sz : Nat) (h : σ.env d = .lit (.slice none 0 0)) (h0 : 0 < sz) : Turns n0 σ ⟨upd σ.env d (.ref σ.objs.length sz 0 0), σ.objs ++ [.arr sz []]⟩ := by
  intro os γ0 γ _ hs hf
  have hp := hs.pushNil h0
  refine ⟨{ γ with blk := updB γ.blk σ.objs.length none }, rfl, rfl, ⟨fun k => ?_, hp.obs, hp.inj, hp.nz, hp.zlt⟩, hf.trans (Fr.pushNil _ _ _)⟩
  simp only [upd]
  by_cases hk : k = d
  · subst hk
    rw [if_pos rfl]
    have := hs.slots k
    rw [h] at this
    rw [this.lit_inv]
    exact .refNil _ _ (List.getElem?_concat_length ..) (by simp [updB])
  · rw [if_neg hk]
    exact hp.slots k

/-- the results -/
def resW (σ : St) (P : Program) : List ResultVar → (List AV → Prop) → Prop
  | [], K => K []
  | .tmp t :: r, K => resW σ P r fun vs => K (σ.env t :: vs)
  | .cell a t :: r, K =>
    (ty P t).kind ≠ 99 ∧
    match σ.env a with
    | .ptr id rr c =>
      match rowOf σ id rr with
      | some row => loadA (ty P t) row c fun v => resW σ P r fun vs => K (v :: vs)
      | none => False
    | _ => False

def retV : List AV → AV
  | [v] => v
  | vs => .tup vs

theorem resW_sound {γ : Cx} (hs : Sim σ γ) : ∀ (rs : List ResultVar) (K : List AV → Prop), resW σ P rs K →
    ∃ vs cvs, K vs ∧ (rs.mapM fun (r : ResultVar) => match r with | .tmp t => (pure (γ.tmps.getD t Go.undef) : Sem Value) | .cell a t => do loadVar t (← asAddr (γ.tmps.getD a Go.undef))).run P γ.w = .ok cvs γ.w ∧
      cvs.length = vs.length ∧ vs.length = rs.length ∧ ∀ (j : Nat) v, vs[j]? = some v → RelV σ.objs γ.w γ.Z γ.blk v (cvs.getD j Go.undef)
  | [], K, h => ⟨[], [], h, by simp, rfl, rfl, by simp⟩
  | .tmp t :: r, K, h => by
    obtain ⟨vs, cvs, h1, h2, h3, h4, h5⟩ := resW_sound hs r _ h
    refine ⟨_, γ.tmps.getD t Go.undef :: cvs, h1, ?_, by simp [h3], by simp [h4], ?_⟩
    · simp only [List.mapM_cons, Sem.run_bind, Sem.run_pure, Result.andThen_ok, h2]
    · intro j v hj
      cases j with
      | zero => simp at hj; subst hj; simpa using hs.slots t
      | succ j => simpa using h5 j v (by simpa using hj)
  | .cell a t :: r, K, h => by
    obtain ⟨hk, h⟩ := h
    split at h
    · rename_i id rr c he
      have hv := hs.slots a
      rw [he] at hv
      split at h
      · rename_i row hrow
        obtain ⟨v, cv, l1, l2, l3⟩ := load_ptr hs hk hv hrow h
        obtain ⟨vs, cvs, h1, h2, h3, h4, h5⟩ := resW_sound hs r _ l3
        obtain ⟨b, base, cap, cur, tt, o, hp, _⟩ := ptr_row hs hv hrow
        have hrun : (do loadVar t (← asAddr (γ.tmps.getD a Go.undef)) : Sem Value).run P γ.w = .ok cv γ.w := by
          rw [hp] at l1 ⊢
          simp only [Instr.loadAt, Instr.sureAddr, Sem.run_bind, Sem.run_pure, Result.andThen_ok] at l1
          simp only [asAddr, Sem.run_bind, Sem.run_pure, Result.andThen_ok]
          exact l1
        refine ⟨_, cv :: cvs, h1, ?_, by simp [h3], by simp [h4], ?_⟩
        · simp only [List.mapM_cons]
          rw [Sem.run_bind, hrun]
          simp only [Result.andThen_ok, Sem.run_bind, h2, Sem.run_pure]
        · intro j x hj
          cases j with
          | zero => simp at hj; subst hj; simpa using l2
          | succ j => simpa using h5 j x (by simpa using hj)
      · exact h.elim
    · exact h.elim

/-- what stands at a return: the result v of this state may be handed back as res, over the objects objs' -/
def RetOK (n0 : Nat) (σ : St) (v res : AV) (objs' : List Ob) : Prop :=
  ∃ (sel : List Nat) (snap : Bool), sel.Nodup ∧ objs'.length = sel.length ∧ (∀ (j : Nat) o, objs'[j]? = some o → o = .gone ∨ σ.objs[sel.getD j 0]? = some (renO (rho σ.objs.length sel) o)) ∧ (∀ i ∈ sel, i < σ.objs.length) ∧
    n0 ≤ sel.length ∧ (∀ i, i < n0 → sel.getD i 0 = i) ∧ ArgR σ (fun id => ∃ j, j < sel.length ∧ sel.getD j 0 = id ∧ objs'[j]? ≠ some .gone) (rho σ.objs.length sel) snap res v

def retQ (P : Program) (n0 : Nat) (rs : List ResultVar) (res : AV) (objs' : List Ob) : Exit → St → Prop
  | .normal, s => resW s P rs fun vs => RetOK n0 s (retV vs) res objs'
  | .ret, s => resW s P rs fun vs => RetOK n0 s (retV vs) res objs'
  | _, _ => False

/-- A FUNCTION'S CONTRACT, from its body -/
theorem Holds.of_body {f : FuncId} {fn : Func} {c : Code} {args : List AV} {objs : List Ob} {res : AV} {objs' : List Ob} (hf : P.funcs[f]? = some fn) (hb : fn.body = some c) (hname : (fn.name == "runtime.NumGoroutine") = false)
    (hN : args.length ≤ fn.ntmps) (h : W P fn.ntmps objs.length c (retQ P objs.length fn.results.toList res objs') ⟨fun k => args.getD k .undef, objs⟩) : Holds P f args objs res objs' := by
  refine ⟨⟨fn, hf, hname, by rw [hb]; rfl⟩, ?_⟩
  intro γ hsz hs
  refine calls_of_wp hf hb ?_
  let tm := γ.tmps ++ Array.replicate (fn.ntmps - γ.tmps.size) Go.undef
  have hok : Okay fn.ntmps objs γ ⟨fun k => args.getD k .undef, objs⟩ { tmps := tm, defers := [] } γ.w := by
    refine ⟨rfl, by simp [tm]; omega, { γ with tmps := tm }, rfl, rfl, ⟨fun k => ?_, hs.obs, hs.inj, hs.nz, hs.zlt⟩, (Fr.refl _ _).put _⟩
    rcases Nat.lt_or_ge k args.length with hk | hk
    · have := hs.slots k
      have e : tm.getD k Go.undef = γ.tmps.getD k Go.undef := by
        simp only [tm, Array.getD_eq_getD_getElem?]
        rw [Array.getElem?_append_left (by omega)]
      show RelV _ _ _ _ _ (tm.getD k Go.undef)
      rw [e]; exact this
    · have e : args.getD k AV.undef = .undef := by simp [hk]
      show RelV _ _ _ _ (args.getD k .undef) _
      rw [e]; exact .undef _
  refine wp_mono (h objs γ _ γ.w rfl hok) ?_
  rintro e a' w' ⟨σ', h1, hdf, _, γ', rfl, ha, hs', hf'⟩
  have fin : ∀ (K : List AV → Prop), resW σ' P fn.results.toList K → (∀ vs, K vs → RetOK objs.length σ' (retV vs) res objs') →
      a'.defers = [] ∧ ∃ v, (results fn a'.tmps).run P γ'.w = .ok v γ'.w ∧ ∃ cv γ'', Ending.returned v = .returned cv ∧ γ''.w = γ'.w ∧ γ''.tmps = #[cv] ∧ Sim ⟨fun k => [res].getD k .undef, objs'⟩ γ'' ∧ Fr objs γ objs' γ'' := by
    intro K hK hKR
    obtain ⟨vs, cvs, k1, k2, k3, k4, k5⟩ := resW_sound hs' _ _ hK
    obtain ⟨sel, snap, r1, r2, r3, r4, r5, r6, r7⟩ := hKR vs k1
    refine ⟨hdf, ?_⟩
    have hrun : ∃ v, (results fn a'.tmps).run P γ'.w = .ok v γ'.w ∧ RelV σ'.objs γ'.w γ'.Z γ'.blk (retV vs) v := by
      have hm : (fn.results.mapM fun (r : ResultVar) => match r with | .tmp t => (pure (a'.tmps.getD t Go.undef) : Sem Value) | .cell a t => do loadVar t (← asAddr (a'.tmps.getD a Go.undef))).run P γ'.w = .ok cvs.toArray γ'.w := by
        rw [Array.mapM_eq_mapM_toList, Sem.run_map, ← ha, k2]
        rfl
      have hr : (results fn a'.tmps).run P γ'.w = .ok (if h : cvs.toArray.size = 1 then cvs.toArray[0] else .tuple cvs.toArray) γ'.w := by
        unfold results
        rw [Sem.run_bind]
        exact congrArg (fun r => Result.andThen r fun (a : Array Value) w' => (pure (if h : a.size = 1 then a[0] else Value.tuple a) : Sem Value).run P w') hm
      rw [hr]
      match vs, cvs, k3, k5 with
      | [], [], _, k5 => exact ⟨_, rfl, .tup _ _ rfl (fun j x hj => by simp at hj)⟩
      | [v], [cv], _, k5 => exact ⟨cv, by simp, by simpa [retV] using k5 0 v rfl⟩
      | v :: v' :: vs, cv :: cv' :: cvs, k3, k5 =>
        refine ⟨.tuple (cv :: cv' :: cvs).toArray, by simp, .tup _ _ (by simpa using k3) (fun j x hj => ?_)⟩
        have := k5 j x hj
        simpa [List.getD_eq_getElem?_getD, Array.getD_eq_getD_getElem?] using this
    obtain ⟨v, hv1, hv2⟩ := hrun
    obtain ⟨γ'', e1, e2, e3, e4⟩ := hs'.select sel snap objs' r1 r2 r3 r4 (fun k => [res].getD k .undef) #[v] (fun k => by
      cases k with
      | zero => exact .inr ⟨_, r7, by simpa using hv2⟩
      | succ k => left; simp)
    exact ⟨v, hv1, v, γ'', rfl, e1, e2, e3, hf'.select r5 r2 r6 e1 e4⟩
  cases e with
  | normal => exact fin _ h1 (fun _ h => h)
  | ret => exact fin _ h1 (fun _ h => h)
  | exit id => exact h1.elim
  | goto l => exact h1.elim
  | panic c => exact h1.elim
  | outgrown => exact h1.elim

theorem Holds.of_body' {f : FuncId} {fn : Func} {c : Code} {args : List AV} {objs : List Ob} {res : AV} {objs' : List Ob} (N k : Nat) (rs : List ResultVar) (hf : P.funcs[f]? = some fn) (hb : fn.body = some c) (hname : (fn.name == "runtime.NumGoroutine") = false)
    (hN : fn.ntmps = N) (hrs : fn.results.toList = rs) (hk : objs.length = k) (hl : args.length ≤ N) (h : W P N k c (retQ P k rs res objs') ⟨fun k => args.getD k .undef, objs⟩) : Holds P f args objs res objs' := by
  subst hN; subst hrs; subst hk
  exact Holds.of_body hf hb hname hl h

/-! ### The driver: rules in the form in which a walk meets them; what comes behind is kept out of sight -/

theorem W_k {x y : Code} (h : ∀ Q' : Exit → St → Prop, (∀ s, W P N n0 y Q s → Q' .normal s) → (∀ e s, e ≠ .normal → Q e s → Q' e s) → W P N n0 x Q' σ) : W P N n0 (.seq x y) Q σ :=
  W_seq (h _ (fun _ h => h) (fun e s he hq => by cases e <;> first | exact absurd rfl he | exact hq))

theorem W_region_k {id : Nat} {ops : Array Oper} {y : Code} (hd : dstOK N ops = true) (h : ∀ K : St → Prop, (∀ s, W P N n0 y Q s → K s) → opsL P ops ops.toList K σ) : W P N n0 (.seq (.region id ops false) y) Q σ :=
  W_seq (W_region hd (h _ (fun _ h => h)))

theorem opsL_nil {ops : Array Oper} {K : St → Prop} : opsL P ops [] K σ = K σ := rfl
theorem opsL_cons {ops : Array Oper} {o : Oper} {r : List Oper} {K : St → Prop} : opsL P ops (o :: r) K σ =
    match o.guard with
    | none => opG P o σ (opsL P ops r K)
    | some (j, want) =>
      match (ops[j]?).bind (·.dst) with
      | none => False
      | some d =>
        match σ.env d with
        | .lit (.bool b) => guardK P o (opsL P ops r K) b want σ
        | .lit (.tuple vs) => vs = #[] ∧ opsL P ops r K (σ.put o.dst (.lit (.tuple #[])))
        | _ => False := rfl

theorem guardK_tt {o : Oper} {K : St → Prop} : guardK P o K true true σ = opG P o σ K := by simp [guardK]
theorem guardK_ff {o : Oper} {K : St → Prop} : guardK P o K false false σ = opG P o σ K := by simp [guardK]
theorem guardK_tf {o : Oper} {K : St → Prop} : guardK P o K true false σ = K (σ.put o.dst (.lit (.tuple #[]))) := by simp [guardK]
theorem guardK_ft {o : Oper} {K : St → Prop} : guardK P o K false true σ = K (σ.put o.dst (.lit (.tuple #[]))) := by simp [guardK]
theorem guardK_split {o : Oper} {K : St → Prop} {b want : Bool} (h1 : b = true → guardK P o K true want σ) (h2 : b = false → guardK P o K false want σ) : guardK P o K b want σ := by
  cases b
  · exact h2 rfl
  · exact h1 rfl

/-- slots whose contents are forgotten -/
def clr (ds : List Nat) (e : Nat → AV) : Nat → AV := fun k => if ds.contains k then .undef else e k
theorem clr_app {ds : List Nat} {e : Nat → AV} {k : Nat} : clr ds e k = if ds.contains k then .undef else e k := rfl
theorem clr_out {ds : List Nat} {e : Nat → AV} {k : Nat} (h : ds.contains k = false) : clr ds e k = e k := by simp only [clr, h]; rfl
theorem clr_in {ds : List Nat} {e : Nat → AV} {k : Nat} (h : ds.contains k = true) : clr ds e k = .undef := by simp only [clr, h]; rfl

def joinQ (R : St → Prop) : Exit → St → Prop
  | .normal, s => R s
  | _, _ => False

/-- the ways through a region meet again: of what it wrote one slot is known -/
theorem W_region_join {id : Nat} {ops : Array Oper} {y : Code} (ds : List Nat) (d : Nat) (v : AV) (hd : dstOK N ops = true)
    (h : opsL P ops ops.toList (fun s => s.objs = σ.objs ∧ s.env d = v ∧ ∀ k, ds.contains k = false → s.env k = σ.env k) σ) (hy : W P N n0 y Q ⟨upd (clr ds σ.env) d v, σ.objs⟩) : W P N n0 (.seq (.region id ops false) y) Q σ := by
  refine W_seq (W_mono (Q := joinQ fun s => s.objs = σ.objs ∧ s.env d = v ∧ ∀ k, ds.contains k = false → s.env k = σ.env k) (W_region hd h) ?_)
  intro e s hj
  cases e <;> try exact hj.elim
  obtain ⟨h1, h2, h3⟩ := hj
  refine W_turn ?_ hy
  have := Turns.forget (n0 := n0) (σ := s) (e := upd (clr ds σ.env) d v) (fun k => by
    by_cases hk : k = d
    · right; subst hk; simp [upd, h2]
    · simp only [upd, hk, if_false]
      cases hc : ds.contains k with
      | true => left; exact clr_in hc
      | false => right; rw [clr_out hc, h3 k hc])
  rw [h1] at this
  exact this

theorem upd_same (e : Nat → AV) (d : Nat) (v : AV) : upd e d v d = v := by simp [upd]
theorem upd_ne (e : Nat → AV) (d k : Nat) (v : AV) (h : (k == d) = false) : upd e d v k = e k := by
  have : k ≠ d := by simpa using h
  simp [upd, this]

mutual
def noRef : AV → Bool
  | .ref .. => false
  | .ptr .. => false
  | .agg cs => noRefL cs
  | .tup cs => noRefL cs
  | .fn _ cs => noRefL cs
  | _ => true
def noRefL : List AV → Bool
  | [] => true
  | v :: vs => noRef v && noRefL vs
end

mutual
theorem ren_noRef (ρ : Nat → Nat) : ∀ (v : AV), noRef v = true → ren ρ v = v
  | .undef, _ => rfl
  | .lit _, _ => rfl
  | .tree .., _ => rfl
  | .taddr _, _ => rfl
  | .ref .., h => by simp [noRef] at h
  | .ptr .., h => by simp [noRef] at h
  | .agg cs, h => by simp only [noRef] at h; simp only [ren]; rw [renL_noRef ρ cs h]
  | .tup cs, h => by simp only [noRef] at h; simp only [ren]; rw [renL_noRef ρ cs h]
  | .fn f cs, h => by simp only [noRef] at h; simp only [ren]; rw [renL_noRef ρ cs h]
theorem renL_noRef (ρ : Nat → Nat) : ∀ (l : List AV), noRefL l = true → renL ρ l = l
  | [], _ => rfl
  | v :: vs, h => by
    simp only [noRefL, Bool.and_eq_true] at h
    simp only [renL]
    rw [ren_noRef ρ v h.1, renL_noRef ρ vs h.2]
end

theorem noRefL_get {l : List AV} (h : noRefL l = true) {j : Nat} {x : AV} (hx : l[j]? = some x) : noRef x = true := by
  induction l generalizing j with
  | nil => simp at hx
  | cons v l ih =>
    simp only [noRefL, Bool.and_eq_true] at h
    cases j with
    | zero => simp at hx; subst hx; exact h.1
    | succ j => exact ih h.2 (by simpa using hx)

/-- a call that is handed nothing of the caller's own, and gives nothing of its own back -/
theorem callK_pure {f : FuncId} {args : List AV} {dst : Option Tmp} {K : St → Prop} {res : AV} (h : Holds P f args [] res []) (ha : noRefL args = true) (hr : noRef res = true) (hK : K (σ.put dst res)) : callK P f args dst K σ := by
  refine ⟨[], false, args, [], res, [], h, ⟨List.nodup_nil, rfl, by simp, rfl, ?_, by simp⟩, ?_⟩
  · intro j c d hc hd
    rw [hc] at hd
    simp at hd
    subst hd
    have := ArgR.same (σ := σ) (kp := (· ∈ ([] : List Nat))) (ρ := rho σ.objs.length []) (snap := false) c
    rw [ren_noRef _ c (noRefL_get ha hc)] at this
    exact this
  · rw [ren_noRef _ _ hr]
    simpa [mergeO] using hK

/-- a result that holds nothing of the activation's own; no objects were handed in -/
theorem RetOK_pure {v : AV} (hr : noRef v = true) : RetOK 0 σ v v [] := by
  refine ⟨[], false, List.nodup_nil, rfl, by simp, by simp, Nat.le_refl _, by simp, ?_⟩
  have := ArgR.same (σ := σ) (kp := fun id => ∃ j, j < ([] : List Nat).length ∧ ([] : List Nat).getD j 0 = id ∧ ([] : List Ob)[j]? ≠ some .gone) (ρ := rho σ.objs.length []) (snap := false) v
  rw [ren_noRef _ _ hr] at this
  exact this

end Go.Am
