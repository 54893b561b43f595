import Derived.Test.YtjbfepcaobnbpaaGreatDoorX03
set_option linter.unusedVariables false
set_option linter.unusedSimpArgs false
set_option linter.unnecessarySimpa false
set_option linter.unusedSectionVars false
section
namespace Go.Am
variable {P : Program} {N n0 : Nat} {Q : Exit → St → Prop} {σ : St}

theorem W_mono {c : Code} {Q' : Exit → St → Prop} (h : W P N n0 c Q σ) (hq : ∀ e s, Q e s → Q' e s) : W P N n0 c Q' σ :=
  fun os γ0 a w hn hok => wp_mono (h os γ0 a w hn hok) (fun _ _ _ ⟨σ', h1, h2⟩ => ⟨σ', hq _ _ h1, h2⟩)

theorem W_skip (h : Q .normal σ) : W P N n0 .skip Q σ := fun _ _ _ _ _ hok => wp_skip ⟨σ, h, hok⟩
theorem W_label {l : Nat} (h : Q .normal σ) : W P N n0 (.label l) Q σ := fun _ _ _ _ _ hok => wp_label ⟨σ, h, hok⟩
theorem W_exit {id : Nat} (h : Q (.exit id) σ) : W P N n0 (.exit id) Q σ := fun _ _ _ _ _ hok => wp_exit ⟨σ, h, hok⟩
theorem W_ret (h : Q .ret σ) : W P N n0 .ret Q σ := fun _ _ _ _ _ hok => wp_ret ⟨σ, h, hok⟩

def seqQ (P : Program) (N n0 : Nat) (y : Code) (Q : Exit → St → Prop) : Exit → St → Prop
  | .normal, s => W P N n0 y Q s
  | e, s => Q e s

theorem W_seq {x y : Code} (h : W P N n0 x (seqQ P N n0 y Q) σ) : W P N n0 (.seq x y) Q σ := by
  intro os γ0 a w hn hok
  refine wp_seq (wp_mono (h os γ0 a w hn hok) ?_)
  rintro e a' w' ⟨σ', h1, h2⟩
  cases e with
  | normal => exact h1 os γ0 a' w' hn h2
  | exit id => exact ⟨σ', h1, h2⟩
  | goto l => exact ⟨σ', h1, h2⟩
  | ret => exact ⟨σ', h1, h2⟩
  | panic c => exact ⟨σ', h1, h2⟩
  | outgrown => exact ⟨σ', h1, h2⟩

theorem W_cond {c : Operand} {x y : Code} {t : Bool} (hc : ev σ c = .lit (.bool t)) (ht : t = true → W P N n0 x Q σ) (hf : t = false → W P N n0 y Q σ) : W P N n0 (.cond c x y) Q σ := by
  intro os γ0 a w hn hok
  have hcv : a.eval c = .bool t := by
    obtain ⟨_, _, γ, rfl, ha, hs, _⟩ := hok
    have := ev_rel hs ha c
    rw [hc] at this
    exact this.lit_inv
  exact wp_cond_split hcv (fun h => ht h os γ0 a w hn hok) (fun h => hf h os γ0 a w hn hok)

def blockQ (id : Nat) (Q : Exit → St → Prop) : Exit → St → Prop
  | .exit id', s => if id' = id then Q .normal s else Q (.exit id') s
  | e, s => Q e s

theorem W_block {id : Nat} {c : Code} (h : W P N n0 c (blockQ id Q) σ) : W P N n0 (.block id c) Q σ := by
  intro os γ0 a w hn hok
  refine wp_block (wp_mono (h os γ0 a w hn hok) ?_)
  rintro e a' w' ⟨σ', h1, h2⟩
  cases e with
  | exit id' =>
    simp only [blockQ] at h1
    simp only [Exit.inBlock]
    split
    · rename_i he; rw [if_pos he] at h1; exact ⟨σ', h1, h2⟩
    · rename_i he; rw [if_neg he] at h1; exact ⟨σ', h1, h2⟩
  | normal => exact ⟨σ', h1, h2⟩
  | goto l => exact ⟨σ', h1, h2⟩
  | ret => exact ⟨σ', h1, h2⟩
  | panic c => exact ⟨σ', h1, h2⟩
  | outgrown => exact ⟨σ', h1, h2⟩

def loopQ (I : Nat → St → Prop) (n : Nat) (Q : Exit → St → Prop) : Exit → St → Prop
  | .normal, s => ∃ m, m < n ∧ I m s
  | e, s => Q e s

/-- A LOOP: I n: what holds at the head, n a bound of the rounds to come -/
theorem W_loop {c : Code} (I : Nat → St → Prop) (n : Nat) (h0 : I n σ) (round : ∀ n s, I n s → W P N n0 c (loopQ I n Q) s) : W P N n0 (.loop c) Q σ := by
  intro os γ0 a w hn hok b k cs
  have key : ∀ n a w s, I n s → Okay N os γ0 s a w →
      ∃ e a' w', (∃ σ', Q e σ' ∧ Okay N os γ0 σ' a' w') ∧ Arrives P (lone (b.at a (.code c :: .inLoop c :: k)) cs w) b k cs e a' w' := by
    intro n
    induction n using Nat.strongRecOn with
    | _ n ih =>
      intro a w s hI hok
      obtain ⟨e, a₁, w₁, ⟨σ', hq, hok'⟩, harr⟩ := round n s hI os γ0 a w hn hok b (.inLoop c :: k) cs
      cases e with
      | normal =>
        obtain ⟨m, hlt, hI₁⟩ := hq
        obtain ⟨e₂, a₂, w₂, hq₂, harr₂⟩ := ih m hlt a₁ w₁ σ' hI₁ hok'
        exact ⟨e₂, a₂, w₂, hq₂, .of_steps (Steps.trans harr (.one step_inLoop)) harr₂⟩
      | exit id => exact ⟨_, a₁, w₁, ⟨σ', hq, hok'⟩, .pass (x := .inLoop c) rfl (fun _ _ => .inl (by simp)) harr⟩
      | goto l => exact ⟨_, a₁, w₁, ⟨σ', hq, hok'⟩, .pass (x := .inLoop c) rfl (fun _ _ => .inl (by simp)) harr⟩
      | ret => exact ⟨_, a₁, w₁, ⟨σ', hq, hok'⟩, .pass (x := .inLoop c) rfl (fun _ _ => .inl (by simp)) harr⟩
      | panic ch => exact ⟨_, a₁, w₁, ⟨σ', hq, hok'⟩, .pass (x := .inLoop c) rfl (fun _ _ => .inl (by simp)) harr⟩
      | outgrown => exact ⟨_, a₁, w₁, ⟨σ', hq, hok'⟩, .pass (x := .inLoop c) rfl (fun _ _ => .inl (by simp)) harr⟩
  obtain ⟨e, a', w', hq, harr⟩ := key n a w σ h0 hok
  exact ⟨e, a', w', hq, .of_steps (.one step_loop) harr⟩

def dstOK (N : Nat) (ops : Array Oper) : Bool := ops.toList.all fun o => match o.dst with | some d => decide (d < N) | none => true

theorem dstOK_spec {ops : Array Oper} (h : dstOK N ops = true) : ∀ o ∈ ops.toList, ∀ d, o.dst = some d → d < N := by
  intro o ho d hd
  unfold dstOK at h
  rw [List.all_eq_true] at h
  have := h o ho
  simp [hd] at this
  exact this

theorem W_region {id : Nat} {ops : Array Oper} (hd : dstOK N ops = true) (h : opsL P ops ops.toList (Q .normal) σ) : W P N n0 (.region id ops false) Q σ := by
  intro os γ0 a w _ hok
  refine wp_region ?_
  have := opsL_sound (P := P) (N := N) (os := os) (γ0 := γ0) (ops := ops) (dstOK_spec hd) (K := Q .normal) (Q := fun e a' w' => ∃ σ', Q e σ' ∧ Okay N os γ0 σ' a' w') (fun σ' a' w' hK hok' => ⟨σ', hK, hok'⟩)
    ops.toList 0 σ a w rfl h hok
  rw [List.range_eq_range']
  simpa using this

theorem Okay.drawn {os : List Ob} {γ0 : Cx} {a : Act} {w : World} (h : Okay N os γ0 σ a w) : Okay N os γ0 σ a { w with drawn := w.drawn + 1 } := by
  obtain ⟨h1, h2, γ, rfl, h3, h4, h5⟩ := h
  exact ⟨h1, h2, { γ with w := { γ.w with drawn := γ.w.drawn + 1 } }, rfl, h3, h4.sameHeap rfl, h5.sameHeap rfl rfl rfl rfl⟩

/-- A CHANGE OF VIEW: the state is described otherwise -/
def Turns (n0 : Nat) (σ σ' : St) : Prop := ∀ (os : List Ob) (γ0 γ : Cx), os.length = n0 → Sim σ γ → Fr os γ0 σ.objs γ → ∃ γ', γ'.w = γ.w ∧ γ'.tmps = γ.tmps ∧ Sim σ' γ' ∧ Fr os γ0 σ'.objs γ'

theorem W_turn {c : Code} {σ' : St} (h : Turns n0 σ σ') (hw : W P N n0 c Q σ') : W P N n0 c Q σ := by
  intro os γ0 a w hn hok
  obtain ⟨h1, h2, γ, rfl, h3, h4, h5⟩ := hok
  obtain ⟨γ', e1, e2, e3, e4⟩ := h os γ0 γ hn h4 h5
  exact hw os γ0 a γ.w hn ⟨h1, h2, γ', e1, e2.trans h3, e3, e4⟩

/-- slots are forgotten -/
theorem Turns.forget {e : Nat → AV} (h : ∀ k, e k = .undef ∨ e k = σ.env k) : Turns n0 σ ⟨e, σ.objs⟩ := by
  intro os γ0 γ _ hs hf
  refine ⟨γ, rfl, rfl, ⟨fun k => ?_, hs.obs, hs.inj, hs.nz, hs.zlt, hs.gl⟩, hf⟩
  rcases h k with h | h
  · show RelV _ _ _ _ (e k) _
    rw [h]; exact .undef _
  · show RelV _ _ _ _ (e k) _
    rw [h]; exact hs.slots k

/-- the general turn: kept objects, renumbered; with snap: what is not kept is read only from now on -/
theorem Turns.select (sel : List Nat) (snap : Bool) (cobjs : List Ob) (e : Nat → AV) (hnd : sel.Nodup) (hcl : cobjs.length = sel.length)
    (hco : ∀ (j : Nat) o, cobjs[j]? = some o → o = .gone ∨ σ.objs[sel.getD j 0]? = some (renO (rho σ.objs.length sel) o)) (hsl : ∀ i ∈ sel, i < σ.objs.length)
    (hn : n0 ≤ sel.length) (hid : ∀ i, i < n0 → sel.getD i 0 = i)
    (he : ∀ k, e k = .undef ∨ ArgR σ (fun id => ∃ j, j < sel.length ∧ sel.getD j 0 = id ∧ cobjs[j]? ≠ some .gone) (rho σ.objs.length sel) snap (e k) (σ.env k)) : Turns n0 σ ⟨e, cobjs⟩ := by
  intro os γ0 γ hos hs hf
  obtain ⟨γ', h1, h2, h3, h4⟩ := hs.select sel snap cobjs hnd hcl hco hsl e γ.tmps (fun k => (he k).imp id fun h => ⟨_, h, hs.slots k⟩)
  exact ⟨γ', h1, h2, h3, hf.select (by omega) hcl (fun i hi => hid i (by omega)) h1 h4⟩

theorem Turns.trans {σ1 σ2 : St} (h : Turns n0 σ σ1) (k : Turns n0 σ1 σ2) : Turns n0 σ σ2 := by
  intro os γ0 γ hos hs hf
  obtain ⟨γ1, a1, a2, a3, a4⟩ := h os γ0 γ hos hs hf
  obtain ⟨γ2, b1, b2, b3, b4⟩ := k os γ0 γ1 hos a3 a4
  exact ⟨γ2, b1.trans a1, b2.trans a2, b3, b4⟩

/-- a nil slice in a slot becomes a slice of the activation's own -/
theorem Turns.nil (d sz : Nat) (h : σ.env d = .lit (.slice none 0 0)) (h0 : 0 < sz) : Turns n0 σ ⟨upd σ.env d (.ref σ.objs.length sz 0 0), σ.objs ++ [.arr sz []]⟩ := by
  intro os γ0 γ _ hs hf
  have hp := hs.pushNil h0
  refine ⟨{ γ with blk := updB γ.blk σ.objs.length none }, rfl, rfl, ⟨fun k => ?_, hp.obs, hp.inj, hp.nz, hp.zlt, hp.gl⟩, hf.trans (Fr.pushNil _ _ _)⟩
  simp only [upd]
  by_cases hk : k = d
  · subst hk
    rw [if_pos rfl]
    have := hs.slots k
    rw [h] at this
    rw [this.lit_inv]
    exact .refNil _ _ (List.getElem?_concat_length ..) (by simp [updB])
  · rw [if_neg hk]
    exact hp.slots k

/-- the results -/
def resW (σ : St) (P : Program) : List ResultVar → (List AV → Prop) → Prop
  | [], K => K []
  | .tmp t :: r, K => resW σ P r fun vs => K (σ.env t :: vs)
  | .cell a t :: r, K =>
    (ty P t).kind ≠ 99 ∧
    match σ.env a with
    | .ptr id rr c =>
      match rowOf σ id rr with
      | some row => loadA (ty P t) row c fun v => resW σ P r fun vs => K (v :: vs)
      | none => False
    | _ => False

def retV : List AV → AV
  | [v] => v
  | vs => .tup vs

theorem resW_sound {γ : Cx} (hs : Sim σ γ) : ∀ (rs : List ResultVar) (K : List AV → Prop), resW σ P rs K →
    ∃ vs cvs, K vs ∧ (rs.mapM fun (r : ResultVar) => match r with | .tmp t => (pure (γ.tmps.getD t Go.undef) : Sem Value) | .cell a t => do loadVar t (← asAddr (γ.tmps.getD a Go.undef))).run P γ.w = .ok cvs γ.w ∧
      cvs.length = vs.length ∧ vs.length = rs.length ∧ ∀ (j : Nat) v, vs[j]? = some v → RelV σ.objs γ.w γ.Z γ.blk v (cvs.getD j Go.undef)
  | [], K, h => ⟨[], [], h, by simp, rfl, rfl, by simp⟩
  | .tmp t :: r, K, h => by
    obtain ⟨vs, cvs, h1, h2, h3, h4, h5⟩ := resW_sound hs r _ h
    refine ⟨_, γ.tmps.getD t Go.undef :: cvs, h1, ?_, by simp [h3], by simp [h4], ?_⟩
    · simp only [List.mapM_cons, Sem.run_bind, Sem.run_pure, Result.andThen_ok, h2]
    · intro j v hj
      cases j with
      | zero => simp at hj; subst hj; simpa using hs.slots t
      | succ j => simpa using h5 j v (by simpa using hj)
  | .cell a t :: r, K, h => by
    obtain ⟨hk, h⟩ := h
    split at h
    · rename_i id rr c he
      have hv := hs.slots a
      rw [he] at hv
      split at h
      · rename_i row hrow
        obtain ⟨v, cv, l1, l2, l3⟩ := load_ptr hs hk hv hrow h
        obtain ⟨vs, cvs, h1, h2, h3, h4, h5⟩ := resW_sound hs r _ l3
        obtain ⟨b, base, cap, cur, tt, o, hp, _⟩ := ptr_row hs hv hrow
        have hrun : (do loadVar t (← asAddr (γ.tmps.getD a Go.undef)) : Sem Value).run P γ.w = .ok cv γ.w := by
          rw [hp] at l1 ⊢
          simp only [Instr.loadAt, Instr.sureAddr, Sem.run_bind, Sem.run_pure, Result.andThen_ok] at l1
          simp only [asAddr, Sem.run_bind, Sem.run_pure, Result.andThen_ok]
          exact l1
        refine ⟨_, cv :: cvs, h1, ?_, by simp [h3], by simp [h4], ?_⟩
        · simp only [List.mapM_cons]
          rw [Sem.run_bind, hrun]
          simp only [Result.andThen_ok, Sem.run_bind, h2, Sem.run_pure]
        · intro j x hj
          cases j with
          | zero => simp at hj; subst hj; simpa using l2
          | succ j => simpa using h5 j x (by simpa using hj)
      · exact h.elim
    · exact h.elim

/-- what stands at a return: the result v of this state may be handed back as res, over the objects objs' -/
def RetOK (n0 : Nat) (σ : St) (v res : AV) (objs' : List Ob) : Prop :=
  ∃ (sel : List Nat) (snap : Bool), sel.Nodup ∧ objs'.length = sel.length ∧ (∀ (j : Nat) o, objs'[j]? = some o → o = .gone ∨ σ.objs[sel.getD j 0]? = some (renO (rho σ.objs.length sel) o)) ∧ (∀ i ∈ sel, i < σ.objs.length) ∧
    n0 ≤ sel.length ∧ (∀ i, i < n0 → sel.getD i 0 = i) ∧ ArgR σ (fun id => ∃ j, j < sel.length ∧ sel.getD j 0 = id ∧ objs'[j]? ≠ some .gone) (rho σ.objs.length sel) snap res v

def retQ (P : Program) (n0 : Nat) (rs : List ResultVar) (res : AV) (objs' : List Ob) : Exit → St → Prop
  | .normal, s => resW s P rs fun vs => RetOK n0 s (retV vs) res objs'
  | .ret, s => resW s P rs fun vs => RetOK n0 s (retV vs) res objs'
  | _, _ => False

/-- A FUNCTION'S CONTRACT, from its body -/
theorem Holds.of_body {f : FuncId} {fn : Func} {c : Code} {args : List AV} {objs : List Ob} {res : AV} {objs' : List Ob} (hf : P.funcs[f]? = some fn) (hb : fn.body = some c) (hname : (fn.name == "runtime.NumGoroutine") = false)
    (hN : args.length ≤ fn.ntmps) (h : W P fn.ntmps objs.length c (retQ P objs.length fn.results.toList res objs') ⟨fun k => args.getD k .undef, objs⟩) : Holds P f args objs res objs' := by
  refine ⟨⟨fn, hf, hname, by rw [hb]; rfl⟩, ?_⟩
  intro γ hsz hs
  refine calls_of_wp hf hb ?_
  let tm := γ.tmps ++ Array.replicate (fn.ntmps - γ.tmps.size) Go.undef
  have hok : Okay fn.ntmps objs { γ with D := [] } ⟨fun k => args.getD k .undef, objs⟩ { tmps := tm, defers := [] } γ.w := by
    refine ⟨rfl, by simp [tm]; omega, { γ with tmps := tm }, rfl, rfl, ⟨fun k => ?_, hs.obs, hs.inj, hs.nz, hs.zlt, hs.gl⟩, ((Fr.refl _ _).put _).setD⟩
    rcases Nat.lt_or_ge k args.length with hk | hk
    · have := hs.slots k
      have e : tm.getD k Go.undef = γ.tmps.getD k Go.undef := by
        simp only [tm, Array.getD_eq_getD_getElem?]
        rw [Array.getElem?_append_left (by omega)]
      show RelV _ _ _ _ _ (tm.getD k Go.undef)
      rw [e]; exact this
    · have e : args.getD k AV.undef = .undef := by simp [hk]
      show RelV _ _ _ _ (args.getD k .undef) _
      rw [e]; exact .undef _
  refine wp_mono (h objs { γ with D := [] } _ γ.w rfl hok) ?_
  rintro e a' w' ⟨σ', h1, hdf, _, γ', rfl, ha, hs', hf'⟩
  have hf' := hf'.unD
  have fin : ∀ (K : List AV → Prop), resW σ' P fn.results.toList K → (∀ vs, K vs → RetOK objs.length σ' (retV vs) res objs') →
      a'.defers = [] ∧ ∃ v, (results fn a'.tmps).run P γ'.w = .ok v γ'.w ∧ ∃ cv γ'', Ending.returned v = .returned cv ∧ γ''.w = γ'.w ∧ γ''.tmps = #[cv] ∧ Sim ⟨fun k => [res].getD k .undef, objs'⟩ γ'' ∧ Fr objs γ objs' γ'' := by
    intro K hK hKR
    obtain ⟨vs, cvs, k1, k2, k3, k4, k5⟩ := resW_sound hs' _ _ hK
    obtain ⟨sel, snap, r1, r2, r3, r4, r5, r6, r7⟩ := hKR vs k1
    refine ⟨hdf, ?_⟩
    have hrun : ∃ v, (results fn a'.tmps).run P γ'.w = .ok v γ'.w ∧ RelV σ'.objs γ'.w γ'.Z γ'.blk (retV vs) v := by
      have hm : (fn.results.mapM fun (r : ResultVar) => match r with | .tmp t => (pure (a'.tmps.getD t Go.undef) : Sem Value) | .cell a t => do loadVar t (← asAddr (a'.tmps.getD a Go.undef))).run P γ'.w = .ok cvs.toArray γ'.w := by
        rw [Array.mapM_eq_mapM_toList, Sem.run_map, ← ha, k2]
        rfl
      have hr : (results fn a'.tmps).run P γ'.w = .ok (if h : cvs.toArray.size = 1 then cvs.toArray[0] else .tuple cvs.toArray) γ'.w := by
        unfold results
        rw [Sem.run_bind]
        exact congrArg (fun r => Result.andThen r fun (a : Array Value) w' => (pure (if h : a.size = 1 then a[0] else Value.tuple a) : Sem Value).run P w') hm
      rw [hr]
      match vs, cvs, k3, k5 with
      | [], [], _, k5 => exact ⟨_, rfl, .tup _ _ rfl (fun j x hj => by simp at hj)⟩
      | [v], [cv], _, k5 => exact ⟨cv, by simp, by simpa [retV] using k5 0 v rfl⟩
      | v :: v' :: vs, cv :: cv' :: cvs, k3, k5 =>
        refine ⟨.tuple (cv :: cv' :: cvs).toArray, by simp, .tup _ _ (by simpa using k3) (fun j x hj => ?_)⟩
        have := k5 j x hj
        simpa [List.getD_eq_getElem?_getD, Array.getD_eq_getD_getElem?] using this
    obtain ⟨v, hv1, hv2⟩ := hrun
    obtain ⟨γ'', e1, e2, e3, e4⟩ := hs'.select sel snap objs' r1 r2 r3 r4 (fun k => [res].getD k .undef) #[v] (fun k => by
      cases k with
      | zero => exact .inr ⟨_, r7, by simpa using hv2⟩
      | succ k => left; simp)
    exact ⟨v, hv1, v, γ'', rfl, e1, e2, e3, hf'.select r5 r2 r6 e1 e4⟩
  cases e with
  | normal => exact fin _ h1 (fun _ h => h)
  | ret => exact fin _ h1 (fun _ h => h)
  | exit id => exact h1.elim
  | goto l => exact h1.elim
  | panic c => exact h1.elim
  | outgrown => exact h1.elim

theorem Holds.of_body' {f : FuncId} {fn : Func} {c : Code} {args : List AV} {objs : List Ob} {res : AV} {objs' : List Ob} (N k : Nat) (rs : List ResultVar) (hf : P.funcs[f]? = some fn) (hb : fn.body = some c) (hname : (fn.name == "runtime.NumGoroutine") = false)
    (hN : fn.ntmps = N) (hrs : fn.results.toList = rs) (hk : objs.length = k) (hl : args.length ≤ N) (h : W P N k c (retQ P k rs res objs') ⟨fun k => args.getD k .undef, objs⟩) : Holds P f args objs res objs' := by
  subst hN; subst hrs; subst hk
  exact Holds.of_body hf hb hname hl h

/-! ### The driver: rules in the form in which a walk meets them; what comes behind is kept out of sight -/

theorem W_k {x y : Code} (h : ∀ Q' : Exit → St → Prop, (∀ s, W P N n0 y Q s → Q' .normal s) → (∀ e s, e ≠ .normal → Q e s → Q' e s) → W P N n0 x Q' σ) : W P N n0 (.seq x y) Q σ :=
  W_seq (h _ (fun _ h => h) (fun e s he hq => by cases e <;> first | exact absurd rfl he | exact hq))

theorem W_region_k {id : Nat} {ops : Array Oper} {y : Code} (hd : dstOK N ops = true) (h : ∀ K : St → Prop, (∀ s, W P N n0 y Q s → K s) → opsL P ops ops.toList K σ) : W P N n0 (.seq (.region id ops false) y) Q σ :=
  W_seq (W_region hd (h _ (fun _ h => h)))

theorem opsL_nil {ops : Array Oper} {K : St → Prop} : opsL P ops [] K σ = K σ := rfl
theorem opsL_cons {ops : Array Oper} {o : Oper} {r : List Oper} {K : St → Prop} : opsL P ops (o :: r) K σ =
    match o.guard with
    | none => opG P o σ (opsL P ops r K)
    | some (j, want) =>
      match (ops[j]?).bind (·.dst) with
      | none => False
      | some d =>
        match σ.env d with
        | .lit (.bool b) => guardK P o (opsL P ops r K) b want σ
        | .lit (.tuple vs) => vs = #[] ∧ opsL P ops r K (σ.put o.dst (.lit (.tuple #[])))
        | _ => False := rfl

theorem guardK_tt {o : Oper} {K : St → Prop} : guardK P o K true true σ = opG P o σ K := by simp [guardK]
theorem guardK_ff {o : Oper} {K : St → Prop} : guardK P o K false false σ = opG P o σ K := by simp [guardK]
theorem guardK_tf {o : Oper} {K : St → Prop} : guardK P o K true false σ = K (σ.put o.dst (.lit (.tuple #[]))) := by simp [guardK]
theorem guardK_ft {o : Oper} {K : St → Prop} : guardK P o K false true σ = K (σ.put o.dst (.lit (.tuple #[]))) := by simp [guardK]
theorem guardK_split {o : Oper} {K : St → Prop} {b want : Bool} (h1 : b = true → guardK P o K true want σ) (h2 : b = false → guardK P o K false want σ) : guardK P o K b want σ := by
  cases b
  · exact h2 rfl
  · exact h1 rfl

/-- slots whose contents are forgotten -/
def clr (ds : List Nat) (e : Nat → AV) : Nat → AV := fun k => if ds.contains k then .undef else e k
theorem clr_app {ds : List Nat} {e : Nat → AV} {k : Nat} : clr ds e k = if ds.contains k then .undef else e k := rfl
theorem clr_out {ds : List Nat} {e : Nat → AV} {k : Nat} (h : ds.contains k = false) : clr ds e k = e k := by simp only [clr, h]; rfl
theorem clr_in {ds : List Nat} {e : Nat → AV} {k : Nat} (h : ds.contains k = true) : clr ds e k = .undef := by simp only [clr, h]; rfl

def joinQ (R : St → Prop) : Exit → St → Prop
  | .normal, s => R s
  | _, _ => False

/-- the ways through a region meet again: of what it wrote one slot is known -/
theorem W_region_join {id : Nat} {ops : Array Oper} {y : Code} (ds : List Nat) (d : Nat) (v : AV) (hd : dstOK N ops = true)
    (h : opsL P ops ops.toList (fun s => s.objs = σ.objs ∧ s.env d = v ∧ ∀ k, ds.contains k = false → s.env k = σ.env k) σ) (hy : W P N n0 y Q ⟨upd (clr ds σ.env) d v, σ.objs⟩) : W P N n0 (.seq (.region id ops false) y) Q σ := by
  refine W_seq (W_mono (Q := joinQ fun s => s.objs = σ.objs ∧ s.env d = v ∧ ∀ k, ds.contains k = false → s.env k = σ.env k) (W_region hd h) ?_)
  intro e s hj
  cases e <;> try exact hj.elim
  obtain ⟨h1, h2, h3⟩ := hj
  refine W_turn ?_ hy
  have := Turns.forget (n0 := n0) (σ := s) (e := upd (clr ds σ.env) d v) (fun k => by
    by_cases hk : k = d
    · right; subst hk; simp [upd, h2]
    · simp only [upd, hk, if_false]
      cases hc : ds.contains k with
      | true => left; exact clr_in hc
      | false => right; rw [clr_out hc, h3 k hc])
  rw [h1] at this
  exact this

theorem upd_same (e : Nat → AV) (d : Nat) (v : AV) : upd e d v d = v := by simp [upd]
theorem upd_ne (e : Nat → AV) (d k : Nat) (v : AV) (h : (k == d) = false) : upd e d v k = e k := by
  have : k ≠ d := by simpa using h
  simp [upd, this]

mutual
def noRef : AV → Bool
  | .ref .. => false
  | .ptr .. => false
  | .agg cs => noRefL cs
  | .tup cs => noRefL cs
  | .fn _ cs => noRefL cs
  | .bfn _ cs => noRefL cs
  | .ifc _ v => noRef v
  | .mref _ => false
  | _ => true
def noRefL : List AV → Bool
  | [] => true
  | v :: vs => noRef v && noRefL vs
end

mutual
theorem ren_noRef (ρ : Nat → Nat) : ∀ (v : AV), noRef v = true → ren ρ v = v
  | .undef, _ => rfl
  | .lit _, _ => rfl
  | .tree .., _ => rfl
  | .taddr _, _ => rfl
  | .ref .., h => by simp [noRef] at h
  | .ptr .., h => by simp [noRef] at h
  | .agg cs, h => by simp only [noRef] at h; simp only [ren]; rw [renL_noRef ρ cs h]
  | .tup cs, h => by simp only [noRef] at h; simp only [ren]; rw [renL_noRef ρ cs h]
  | .fn f cs, h => by simp only [noRef] at h; simp only [ren]; rw [renL_noRef ρ cs h]
  | .bfn f cs, h => by simp only [noRef] at h; simp only [ren]; rw [renL_noRef ρ cs h]
  | .ifc t v, h => by simp only [noRef] at h; simp only [ren]; rw [ren_noRef ρ v h]
  | .mref _, h => by simp [noRef] at h
theorem renL_noRef (ρ : Nat → Nat) : ∀ (l : List AV), noRefL l = true → renL ρ l = l
  | [], _ => rfl
  | v :: vs, h => by
    simp only [noRefL, Bool.and_eq_true] at h
    simp only [renL]
    rw [ren_noRef ρ v h.1, renL_noRef ρ vs h.2]
end

theorem noRefL_get {l : List AV} (h : noRefL l = true) {j : Nat} {x : AV} (hx : l[j]? = some x) : noRef x = true := by
  induction l generalizing j with
  | nil => simp at hx
  | cons v l ih =>
    simp only [noRefL, Bool.and_eq_true] at h
    cases j with
    | zero => simp at hx; subst hx; exact h.1
    | succ j => exact ih h.2 (by simpa using hx)

/-- a call that is handed nothing of the caller's own, and gives nothing of its own back -/
theorem callK_pure {f : FuncId} {args : List AV} {dst : Option Tmp} {K : St → Prop} {res : AV} (h : Holds P f args [] res []) (ha : noRefL args = true) (hr : noRef res = true) (hK : K (σ.put dst res)) : callK P f args dst K σ := by
  refine ⟨[], false, args, [], res, [], h, ⟨List.nodup_nil, rfl, by simp, rfl, ?_, by simp⟩, ?_⟩
  · intro j c d hc hd
    rw [hc] at hd
    simp at hd
    subst hd
    have := ArgR.same (σ := σ) (kp := (· ∈ ([] : List Nat))) (ρ := rho σ.objs.length []) (snap := false) c
    rw [ren_noRef _ c (noRefL_get ha hc)] at this
    exact this
  · rw [ren_noRef _ _ hr]
    simpa [mergeO] using hK

/-- a result that holds nothing of the activation's own; no objects were handed in -/
theorem RetOK_pure {v : AV} (hr : noRef v = true) : RetOK 0 σ v v [] := by
  refine ⟨[], false, List.nodup_nil, rfl, by simp, by simp, Nat.le_refl _, by simp, ?_⟩
  have := ArgR.same (σ := σ) (kp := fun id => ∃ j, j < ([] : List Nat).length ∧ ([] : List Nat).getD j 0 = id ∧ ([] : List Ob)[j]? ≠ some .gone) (ρ := rho σ.objs.length []) (snap := false) v
  rw [ren_noRef _ _ hr] at this
  exact this

end Go.Am
end
section
namespace Go.Am
variable {P : Program}

/-- kinds of operations: 0 the slots alone; 1 they look at what objects are there; 2 they look into them; 3 they add one; 4 they write into one; 5 all others -/
def cls : Op → Nat
  | .move _ | .assign _ | .pick .. | .convert .. | .binOp .. | .unOp .. | .makeFunc .. | .makeInterface .. | .typeAssert .. | .field .. | .extract .. | .build .. | .index .. => 0
  | .call { callee := .builtin .min, .. } | .call { callee := .builtin .max, .. } => 0
  | .nilCheck _ | .fieldAddr .. | .indexAddr .. | .slice .. => 1
  | .call { callee := .builtin .len, .. } => 1
  | .load .. | .lookup .. => 2
  | .alloc _ | .box .. | .makeSlice .. | .buildSlice .. | .makeMap .. => 3
  | .store .. => 4
  | _ => 5

def sameK : Ob → Ob → Prop
  | .var _, .var _ => True
  | .arr s _, .arr s' _ => s = s'
  | .mp a L, .mp b M => a = b ∧ L = M
  | .gone, .gone => True
  | _, _ => False

theorem sameK_refl (o : Ob) : sameK o o := by cases o <;> simp [sameK]
theorem sameK_symm {a b : Ob} (h : sameK a b) : sameK b a := by cases a <;> cases b <;> simp_all [sameK]

/-- what an operation of a kind does to the objects -/
def Eff (c : Nat) (a b : List Ob) : Prop :=
  if c ≤ 2 then b = a
  else if c = 3 then ∀ (id : Nat), id < a.length → b[id]? = a[id]?
  else if c = 4 then b.length = a.length ∧ ∀ (id : Nat) o o', a[id]? = some o → b[id]? = some o' → sameK o o'
  else True

theorem eff_id (c : Nat) (h : c ≤ 2) (a : List Ob) : Eff c a a := by simp [Eff, h]

theorem eff_push (a : List Ob) (o : Ob) : Eff 3 a (a ++ [o]) := by
  simp only [Eff]; intro id h; exact List.getElem?_append_left h

theorem eff_set (σ : St) (id r : Nat) (row : List AV) : Eff 4 σ.objs (setRowOf σ id r row).objs := by
  simp only [Eff]
  rw [if_neg (by decide), if_neg (by decide), if_pos trivial]
  have key : ∀ (x y : Ob), σ.objs[id]? = some x → sameK x y → (σ.objs.set id y).length = σ.objs.length ∧ ∀ (i : Nat) o o', σ.objs[i]? = some o → (σ.objs.set id y)[i]? = some o' → sameK o o' := by
    intro x y hx hxy
    refine ⟨by simp, fun i o o' ho ho' => ?_⟩
    rw [List.getElem?_set] at ho'
    split at ho'
    · rename_i e; subst e
      split at ho'
      · simp at ho'; subst ho'; rw [hx] at ho; simp at ho; subst ho; exact hxy
      · simp at ho'
    · rw [ho] at ho'; simp at ho'; subst ho'; exact sameK_refl o
  unfold setRowOf
  split
  · rename_i cells h; exact key _ _ h trivial
  · rename_i sz rows h; exact key _ _ h rfl
  · exact ⟨rfl, fun i o o' ho ho' => by rw [ho] at ho'; simp at ho'; subst ho'; exact sameK_refl o⟩

/-- the object at which a value points -/
def pointsTo : AV → Option Nat
  | .ref id _ _ _ => some id
  | .ptr id _ _ => some id
  | .mref id => some id
  | _ => none

/-- how much of the objects an operation of a kind looks at -/
def ObjC (c : Nat) (a b : Option Ob) : Prop :=
  if c = 0 then True else if c = 1 then ∀ o, a = some o → ∃ o', b = some o' ∧ sameK o o' else ∀ o, a = some o → b = some o

def SmE (c : Nat) (l : List Operand) (σ : St) (e2 : Nat → AV) (ob : List Ob) : Prop :=
  (∀ x ∈ l, ev ⟨e2, ob⟩ x = ev σ x) ∧ (∀ x ∈ l, ∀ id, pointsTo (ev σ x) = some id → ObjC c σ.objs[id]? ob[id]?)

def DetW (P : Program) (o : Oper) (σ : St) (K : St → Prop) (c : Nat) (l : List Operand) : Prop :=
  ∃ v os, Eff c σ.objs os ∧ K ((⟨σ.env, os⟩ : St).put o.dst v) ∧ ∀ e2 ob os2 (K2 : St → Prop), SmE c l σ e2 ob → (if c ≤ 2 then os2 = ob else ob = σ.objs ∧ os2 = os) → K2 ((⟨e2, os2⟩ : St).put o.dst v) → opW P o ⟨e2, ob⟩ K2

theorem sameK_gone {a : Ob} : sameK a .gone ↔ a = .gone := by cases a <;> simp [sameK]

theorem dA {o : Oper} {σ : St} {K : St → Prop} {c : Nat} {l : List Operand} {v : AV} (hW : K (σ.put o.dst v))
    (h : ∀ e2 ob (K2 : St → Prop), SmE c l σ e2 ob → K2 ((⟨e2, ob⟩ : St).put o.dst v) → opW P o ⟨e2, ob⟩ K2) (hc : c ≤ 2 := by simp [cls]) : DetW P o σ K c l :=
  ⟨v, σ.objs, eff_id _ hc _, hW, fun e2 ob os2 K2 hx ho hK2 => h e2 ob K2 hx (by rw [if_pos hc] at ho; subst ho; exact hK2)⟩

theorem dB {o : Oper} {σ : St} {K : St → Prop} {c : Nat} {l : List Operand} {v : AV} {os : List Ob} (hc : 3 ≤ c) (he : Eff c σ.objs os) (hW : K ((⟨σ.env, os⟩ : St).put o.dst v))
    (h : ∀ e2 (_ : List Ob) (K2 : St → Prop), SmE 0 l σ e2 σ.objs → K2 ((⟨e2, os⟩ : St).put o.dst v) → opW P o ⟨e2, σ.objs⟩ K2) : DetW P o σ K c l :=
  ⟨v, os, he, hW, fun e2 ob os2 K2 hx ho hK2 => by rw [if_neg (by omega)] at ho; obtain ⟨rfl, rfl⟩ := ho; exact h e2 σ.objs K2 ⟨hx.1, fun _ _ _ _ => by simp [ObjC]⟩ hK2⟩

theorem parts_eq {parts : Array (Nat × Operand)} {σ τ : St} (h : ∀ x ∈ parts.toList.map (·.2), ev τ x = ev σ x) :
    (parts.toList.map fun p => (p.1, ev τ p.2)) = (parts.toList.map fun p => (p.1, ev σ p.2)) ∧ (parts.toList.all fun p => (cellsOf (ev τ p.2)).all scal) = (parts.toList.all fun p => (cellsOf (ev σ p.2)).all scal) := by
  have hp : (parts.toList.map fun p => (p.1, ev τ p.2)) = (parts.toList.map fun p => (p.1, ev σ p.2)) := List.map_congr_left fun p hp => by rw [h _ (List.mem_map_of_mem hp)]
  exact ⟨hp, by simpa [List.all_map, Function.comp_def] using congrArg (·.all fun q => (cellsOf q.2).all scal) hp⟩

theorem loadA_det {t : Ty} {cells : List AV} {c : Nat} {K : AV → Prop} (h : loadA t cells c K) : ∃ v, K v ∧ ∀ K2 : AV → Prop, K2 v → loadA t cells c K2 := by
  unfold loadA at h ⊢
  split at h
  · exact ⟨_, h.2, fun K2 hK => by simp_all⟩
  · split at h <;> first | exact h.elim | exact ⟨_, h, fun K2 hK => by simp_all⟩

theorem mulW_det {k : IntKind} {p q : Int} {K : Value → Prop} (h : mulW k p q K) : ∃ v, K v ∧ ∀ K2 : Value → Prop, K2 v → mulW k p q K2 := by
  by_cases hk : k = .u64
  · rw [mulW, if_pos hk] at h; exact ⟨_, h, fun K2 h2 => by rw [mulW, if_pos hk]; exact h2⟩
  · rw [mulW, if_neg hk] at h; exact ⟨_, h.2, fun K2 h2 => by rw [mulW, if_neg hk]; exact ⟨h.1, h2⟩⟩
theorem negW_det {k : IntKind} {p : Int} {K : Value → Prop} (h : negW k p K) : ∃ v, K v ∧ ∀ K2 : Value → Prop, K2 v → negW k p K2 := by
  by_cases hk : k = .u64
  · rw [negW, if_pos hk] at h; exact ⟨_, h, fun K2 h2 => by rw [negW, if_pos hk]; exact h2⟩
  · rw [negW, if_neg hk] at h; exact ⟨_, h.2, fun K2 h2 => by rw [negW, if_neg hk]; exact ⟨h.1, h2⟩⟩
theorem intW_det {op : BinOp} {k : IntKind} {p q : Int} {K : Value → Prop} (h : intW op k p q K) : ∃ v, K v ∧ ∀ K2 : Value → Prop, K2 v → intW op k p q K2 := by
  unfold intW at h ⊢
  split at h <;> first | exact mulW_det h | exact ⟨_, h.2, fun K2 h' => ⟨h.1, h'⟩⟩ | exact ⟨_, h, fun K2 h => h⟩ | exact h.elim

theorem rowOf_of {σ : St} {e : Nat → AV} {ob : List Ob} {id r : Nat} {row : List AV} (h : ∀ o, σ.objs[id]? = some o → ob[id]? = some o) (hr : rowOf σ id r = some row) : rowOf ⟨e, ob⟩ id r = some row := by
  unfold rowOf at hr ⊢
  cases ho : σ.objs[id]? <;> simp_all

theorem mpOf_of {σ : St} {e : Nat → AV} {ob : List Ob} {v : AV} {q : Nat × Nat × List (List Int × AV)} (h : ∀ id, v = .mref id → ∀ o, σ.objs[id]? = some o → ob[id]? = some o) (hm : mpOf σ v = some q) : mpOf ⟨e, ob⟩ v = some q := by
  unfold mpOf at hm ⊢
  split at hm
  · rename_i id
    split at hm
    · rename_i ag L ho
      have := h id rfl _ ho
      simp only [this]
      exact hm
    · cases hm
  · cases hm

theorem opW_det {o : Oper} {σ : St} {K : St → Prop} (hW : opW P o σ K) : DetW P o σ K (cls o.op) o.op.operands.toList := by
  obtain ⟨dst, op, type, pos, after, guard⟩ := o
  unfold opW at hW
  cases op
  case call c =>
    obtain ⟨callee, args, argTypes⟩ := c
    cases callee <;> try exact hW.elim
    rename_i b
    cases b <;> try exact hW.elim
    all_goals simp only at hW
    case append =>
      (repeat' split at hW) <;> try exact hW.elim
      rename_i s x t t' hx' ht' _ _ _ _ z pre σ1 sz src hk hz hdst hsrc
      have henv : σ1 = ⟨σ.env, σ1.objs⟩ ∧ ∀ e, dstRows ⟨e, σ.objs⟩ (ty P (ty P t).elem).size (ev σ s) = some (pre, ⟨e, σ1.objs⟩) := by
        unfold dstRows at hdst ⊢
        (repeat' split at hdst) <;> simp_all
        all_goals obtain ⟨rfl, rfl⟩ := hdst; simp
      refine dB (os := σ1.objs ++ [.arr sz (pre ++ src)]) (by simp [cls]) trivial (by have := hW.2; rw [henv.1] at this; exact this) fun e2 ob K2 hx hK2 => ?_
      have hs2 : srcRows ⟨e2, σ.objs⟩ (ev σ x) = some (sz, src) := hsrc
      unfold opW
      simp [SmE, Op.operands, Call.operands, hx'] at hx
      simp only [hx', ht', hx.1.1, hx.1.2, hk, hz, henv.2, hs2]
      exact ⟨hW.1, hK2⟩
    case copy =>
      (repeat' split at hW) <;> try exact hW.elim
      rename_i hx' ht' _ _ id _ _ _ _ src he hsrc _ _ _ ho
      refine dB (by simp [cls]) trivial hW.2 fun e2 ob K2 hx hK2 => ?_
      have hs2 : srcRows ⟨e2, σ.objs⟩ _ = _ := hsrc
      unfold opW
      simp [SmE, Op.operands, Call.operands, hx'] at hx
      simp only [hx', ht', hx.1.1, hx.1.2, he, hs2, ho]
      exact ⟨hW.1, hK2⟩
    case clear =>
      (repeat' split at hW) <;> try exact hW.elim
      rename_i hx' ht' _ _ id _ _ _ _ he hz _ _ _ ho
      refine dB (by simp [cls]) trivial hW.2 fun e2 ob K2 hx hK2 => ?_
      unfold opW
      simp [SmE, Op.operands, Call.operands, hx'] at hx
      simp only [hx', ht', hx, he, hz, ho]
      exact ⟨hW.1, hK2⟩
    all_goals (repeat' split at hW) <;> first | exact hW.elim | exact hW.2.elim | refine dA hW ?_ | refine dA hW.2 ?_ | refine dA hW.2.2 ?_
    all_goals
      intro e2 ob K2 hx hK2
      unfold opW
      simp [SmE, Op.operands, Call.operands, pointsTo, ObjC, cls, *] at hx ⊢
      first | done | (simp_all; done) | (obtain ⟨_, o', _, hk⟩ := hx; cases o' <;> simp_all [sameK]; done)
  case load t x =>
    simp only at hW
    obtain ⟨hk, hW⟩ := hW
    (repeat' split at hW) <;> try exact hW.elim
    all_goals
      obtain ⟨v, hK, hl⟩ := loadA_det hW
      refine dA hK fun e2 ob K2 hx hK2 => ?_
      unfold opW
      simp [SmE, Op.operands, pointsTo, ObjC, cls, *] at hx
      first | simp only [hx.1, rowOf_of hx.2 ‹rowOf _ _ _ = _›] | simp only [hx]
      exact ⟨hk, hl _ hK2⟩
  case store t x y =>
    simp only at hW
    obtain ⟨hk, hW⟩ := hW
    (repeat' split at hW) <;> try exact hW.elim
    rename_i id r c he _ row hrow
    have henv : ∀ row, setRowOf σ id r row = ⟨σ.env, (setRowOf σ id r row).objs⟩ ∧ ∀ e, setRowOf ⟨e, σ.objs⟩ id r row = ⟨e, (setRowOf σ id r row).objs⟩ := by
      intro row; unfold setRowOf; simp only; split <;> simp_all
    refine dB (by simp [cls]) (eff_set _ _ _ _) (by have := hW.2; rw [(henv _).1] at this; exact this) fun e2 ob K2 hx hK2 => ?_
    have hr2 : rowOf ⟨e2, σ.objs⟩ id r = some row := hrow
    unfold opW
    simp only [hx.1 x (by simp [Op.operands]), hx.1 y (by simp [Op.operands]), he, hr2]
    rw [(henv _).2]
    exact ⟨hk, hW.1, hK2⟩
  case build t parts =>
    simp only at hW
    (repeat' split at hW) <;> first | exact hW.elim | refine dA hW.2 ?_
    all_goals
      intro e2 ob K2 hx hK2
      obtain ⟨h1, h2⟩ := parts_eq (parts := parts) (by simpa [Op.operands] using hx.1)
      unfold opW
      simp only [h1, h2, *]
      simp [hW.1]
  case buildSlice t _ parts =>
    simp only at hW
    (repeat' split at hW) <;> first | exact hW.elim | refine dB (Nat.le_refl 3) (eff_push _ _) hW.2 ?_
    intro e2 ob K2 hx hK2
    obtain ⟨h1, h2⟩ := parts_eq (parts := parts) (by simpa [Op.operands] using hx.1)
    unfold opW
    simp only [h1, h2, *]
    simp [hW.1]
  case makeFunc fn first captured =>
    simp only at hW
    split at hW <;> first | exact hW.elim | refine dA hW.2 fun e2 ob K2 hx hK2 => ?_
    unfold opW
    simp only [List.map_congr_left (l := captured.toList) (f := ev ⟨e2, ob⟩) (g := ev σ) fun y hy => hx.1 y (by simp only [Op.operands, Array.toList_append, List.mem_append]; exact .inr hy)]
    exact ⟨hW.1, hK2⟩
  case unOp op t x =>
    simp only at hW
    split at hW
    · rename_i b he
      refine dA hW fun e2 ob K2 hx hK2 => ?_
      unfold opW
      simp [SmE, Op.operands] at hx
      simp only [hx.1, he]
      exact hK2
    · rename_i k p he
      obtain ⟨v, hK, hl⟩ := negW_det hW
      refine dA hK fun e2 ob K2 hx hK2 => ?_
      unfold opW
      simp [SmE, Op.operands] at hx
      simp only [hx.1, he]
      exact hl _ hK2
    · exact hW.elim
  case binOp op t x y yt =>
    simp only at hW
    split at hW
    · rename_i k p k' q he hf
      obtain ⟨hk, hW⟩ := hW
      obtain ⟨v, hK, hl⟩ := intW_det hW
      refine dA hK fun e2 ob K2 hx hK2 => ?_
      unfold opW
      simp [SmE, Op.operands, he, hf] at hx
      simp only [hx.1.1, hx.1.2]
      exact ⟨hk, hl _ hK2⟩
    all_goals (repeat' split at hW) <;> first | exact hW.elim | exact hW.2.elim | refine dA hW.2 ?_
    all_goals
      intro e2 ob K2 hx hK2
      unfold opW
      simp [SmE, Op.operands, *] at hx ⊢
      first | done | (simp_all; done)
  case slice t x lo hi mx =>
    simp only at hW
    obtain ⟨hk, hke, rfl, hW⟩ := hW
    cases lo <;> cases hi <;> simp only [Option.map_some, Option.map_none] at hW
    all_goals (repeat' split at hW) <;> first | exact hW.elim | exact hW.2.elim | exact hW.2.2.elim | refine dA hW.2 ?_ | refine dA hW.2.2 ?_ | refine dA hW.2.2.2 ?_
    all_goals
      intro e2 ob K2 hx hK2
      unfold opW
      simp only [Option.some.injEq] at *
      simp [SmE, Op.operands, pointsTo, ObjC, cls, *] at hx ⊢
      first | done | (simp_all; done) | (obtain ⟨_, o', _, hk⟩ := hx; cases o' <;> simp_all [sameK]; done) | (obtain ⟨_, ⟨o', _, hk⟩, _⟩ := hx; cases o' <;> simp_all [sameK]; done) | trace_state
  case makeMap t r =>
    simp only at hW
    obtain ⟨⟨rfl, hk⟩, hK⟩ := hW
    refine dB (Nat.le_refl 3) (eff_push _ _) hK fun e2 ob K2 hx hK2 => ?_
    unfold opW
    exact ⟨⟨rfl, hk⟩, hK2⟩
  case lookup t x i ok =>
    simp only at hW
    split at hW
    · rename_i ag l id ag' L z hki hmx hzz
      refine dA hW.2 fun e2 ob K2 hx hK2 => ?_
      have h1 := hx.1 x (by simp [Op.operands])
      have h2 := hx.1 i (by simp [Op.operands])
      have h3 : mpOf ⟨e2, ob⟩ (ev σ x) = some (id, ag', L) := mpOf_of (fun id' hid o ho => by
        have := hx.2 x (by simp [Op.operands]) id' (by rw [hid]; rfl)
        unfold ObjC at this
        simp [cls] at this
        exact this o ho) hmx
      unfold opW
      simp only [h1, h2, hki, h3, hzz]
      exact ⟨hW.1, hK2⟩
    · exact hW.elim
  case mapUpdate t m k x =>
    simp only at hW
    split at hW
    · rename_i hki hmx
      obtain ⟨hc0, hK0⟩ := hW
      refine dB (v := .undef) (os := _) (by simp [cls]) trivial hK0 fun e2 ob K2 hx hK2 => ?_
      have h1 := hx.1 m (by simp [Op.operands])
      have h2 := hx.1 k (by simp [Op.operands])
      have h3 := hx.1 x (by simp [Op.operands])
      have h4 : mpOf ⟨e2, σ.objs⟩ (ev σ m) = _ := hmx
      unfold opW
      simp only [h1, h2, h3, hki, h4]
      exact ⟨hc0, hK2⟩
    · exact hW.elim
  case mapEntry t m k =>
    simp only at hW
    split at hW
    · rename_i hki hmx hzz
      obtain ⟨hc0, hK0⟩ := hW
      refine dB (v := _) (os := _) (by simp [cls]) trivial hK0 fun e2 ob K2 hx hK2 => ?_
      have h1 := hx.1 m (by simp [Op.operands])
      have h2 := hx.1 k (by simp [Op.operands])
      have h4 : mpOf ⟨e2, σ.objs⟩ (ev σ m) = _ := hmx
      unfold opW
      simp only [h1, h2, hki, h4, hzz]
      exact ⟨hc0, hK2⟩
    · exact hW.elim
  case entryStore t m s x =>
    simp only at hW
    split at hW
    · rename_i hs hmx
      obtain ⟨hc0, hK0⟩ := hW
      refine dB (v := .undef) (os := _) (by simp [cls]) trivial hK0 fun e2 ob K2 hx hK2 => ?_
      have h1 := hx.1 m (by simp [Op.operands])
      have h2 := hx.1 s (by simp [Op.operands])
      have h3 := hx.1 x (by simp [Op.operands])
      have h4 : mpOf ⟨e2, σ.objs⟩ (ev σ m) = _ := hmx
      unfold opW
      simp only [h1, h2, h3, hs, h4]
      exact ⟨hc0, hK2⟩
    · exact hW.elim
  all_goals (try simp only at hW); (try exact hW.elim)
  all_goals (repeat' split at hW) <;> first | exact hW.elim | exact hW.2.elim | exact hW.2.2.elim | refine dA hW ?_ | refine dA hW.2 ?_ | refine dA hW.2.2 ?_ | refine dA hW.2.2.2 ?_ | refine dB (Nat.le_refl 3) (eff_push _ _) hW.2 ?_ | refine dB (Nat.le_refl 3) (eff_push _ _) hW.2.1 ?_
  all_goals
    intro e2 ob K2 hx hK2
    unfold opW
    simp [SmE, Op.operands, pointsTo, ObjC, cls, -List.all_eq_true, *] at hx ⊢
    first | done | (simp_all; done) | (obtain ⟨_, rfl, _⟩ := hW; simp_all; done) | (obtain ⟨_, o', _, hk⟩ := hx; cases o' <;> simp_all [sameK]; done)

theorem opW_local {o : Oper} {σ : St} {K : St → Prop} (hW : opW P o σ K) :
    ∃ v os, Eff (cls o.op) σ.objs os ∧ K ((⟨σ.env, os⟩ : St).put o.dst v) ∧ ∀ (e2 : Nat → AV) (K2 : St → Prop), (∀ x ∈ o.op.operands.toList, ev ⟨e2, σ.objs⟩ x = ev σ x) → K2 ((⟨e2, os⟩ : St).put o.dst v) → opW P o ⟨e2, σ.objs⟩ K2 := by
  obtain ⟨v, os, h1, h2, h3⟩ := opW_det hW
  refine ⟨v, os, h1, h2, fun e2 K2 hx hK => h3 e2 _ os K2 ⟨hx, fun _ _ _ _ => ?_⟩ ?_ hK⟩
  · unfold ObjC
    (repeat' split) <;> first | trivial | exact fun o ho => ho | exact fun o ho => ⟨o, ho, sameK_refl o⟩
  · split
    · rename_i hc; simpa [Eff, hc] using h1
    · exact ⟨rfl, rfl⟩

theorem opW_value {o : Oper} {σ : St} {K : St → Prop} (hc : cls o.op ≤ 2) (hW : opW P o σ K) :
    ∃ v, K (σ.put o.dst v) ∧ ∀ (σ2 : St) (K2 : St → Prop), (∀ x ∈ o.op.operands.toList, ev σ2 x = ev σ x) → (∀ x ∈ o.op.operands.toList, ∀ id, pointsTo (ev σ x) = some id → ObjC (cls o.op) σ.objs[id]? σ2.objs[id]?) →
      K2 (σ2.put o.dst v) → opW P o σ2 K2 := by
  obtain ⟨v, os, h1, h2, h3⟩ := opW_det hW
  simp only [Eff, hc, if_true] at h1 h3
  subst h1
  exact ⟨v, h2, fun σ2 K2 hx ho hK => h3 σ2.env σ2.objs _ K2 ⟨hx, ho⟩ rfl hK⟩

end Go.Am
end
section
namespace Go.Am
variable {P : Program}

/-- a call that touches nothing of the activation's own -/
def callQ (P : Program) (g : FuncId) (args : List AV) (dst : Option Tmp) (K : St → Prop) (σ : St) : Prop :=
  ∃ res, Holds P g args [] res [] ∧ noRefL args = true ∧ noRef res = true ∧ K (σ.put dst res)

/-- a load of cells that are only read -/
def loadQ (P : Program) (t : TypeId) (dst : Option Tmp) (K : St → Prop) (σ : St) : AV → Prop
  | .taddr cells => (ty P t).kind ≠ 99 ∧ loadA (ty P t) cells 0 fun v => K (σ.put dst v)
  | _ => False

/-- an operation; with q it is such a call or load -/
def opGm (q : Bool) (P : Program) (o : Oper) (σ : St) (K : St → Prop) : Prop :=
  match q with
  | false => opG P o σ K
  | true =>
    match o.op with
    | .call { callee := .value f, args, .. } =>
      match ev σ f with
      | .fn g caps => callQ P g (args.toList.map (ev σ) ++ caps) o.dst K σ
      | _ => False
    | .load t a => loadQ P t o.dst K σ (ev σ a)
    | _ => False

theorem loadQ_opG {o : Oper} {σ : St} {K : St → Prop} {t : TypeId} {a : Operand} (hop : o.op = .load t a) (h : loadQ P t o.dst K σ (ev σ a)) : opG P o σ K := by
  unfold opG
  simp only [hop]
  unfold opW
  simp only [hop]
  unfold loadQ at h
  split at h
  · rename_i cells he
    simp only [he]
    exact h
  · exact h.elim
theorem loadQ_det {t : TypeId} {dst : Option Tmp} {K : St → Prop} {σ : St} {v : AV} (h : loadQ P t dst K σ v) : ∃ x, K (σ.put dst x) ∧ ∀ (σ2 : St) (K2 : St → Prop), K2 (σ2.put dst x) → loadQ P t dst K2 σ2 v := by
  unfold loadQ at h
  split at h
  · rename_i cells
    obtain ⟨h1, h2⟩ := h
    unfold loadA at h2
    split at h2
    · rename_i ha
      refine ⟨_, h2.2, fun σ2 K2 hK => ?_⟩
      unfold loadQ loadA
      simp only
      rw [if_pos ha]
      exact ⟨h1, h2.1, hK⟩
    · rename_i ha
      split at h2
      · rename_i x hx
        refine ⟨x, h2, fun σ2 K2 hK => ?_⟩
        unfold loadQ loadA
        simp only
        rw [if_neg ha, hx]
        exact ⟨h1, hK⟩
      · exact h2.elim
  · exact h.elim

def guardM (q : Bool) (P : Program) (o : Oper) (K : St → Prop) (b want : Bool) (σ : St) : Prop := (b = want → opGm q P o σ K) ∧ (b ≠ want → K (σ.put o.dst (.lit (.tuple #[]))))

/-- one operation of a region -/
def stepD (P : Program) (ops : Array Oper) (q : Bool) (o : Oper) (K : St → Prop) (σ : St) : Prop :=
  match o.guard with
  | none => opGm q P o σ K
  | some (j, want) =>
    match (ops[j]?).bind (·.dst) with
    | none => False
    | some d =>
      match σ.env d with
      | .lit (.bool b) => guardM q P o K b want σ
      | .lit (.tuple vs) => vs = #[] ∧ K (σ.put o.dst (.lit (.tuple #[])))
      | _ => False

theorem opGm_opG {q : Bool} {o : Oper} {σ : St} {K : St → Prop} (h : opGm q P o σ K) : opG P o σ K := by
  cases q with
  | false => exact h
  | true =>
    unfold opGm at h
    simp only at h
    unfold opG
    split at h
    · rename_i f args ats hop
      simp only [hop]
      split at h
      · rename_i g caps he
        simp only [he]
        obtain ⟨res, h1, h2, h3, h4⟩ := h
        exact callK_pure h1 h2 h3 h4
      · exact h.elim
    · rename_i t a hop
      have := loadQ_opG hop h
      unfold opG at this
      simpa only [hop] using this
    · exact h.elim

theorem stepD_sound {N : Nat} {os : List Ob} {γ0 : Cx} {ops : Array Oper} (hd : ∀ o ∈ ops.toList, ∀ d, o.dst = some d → d < N) {q : Bool} {i : Nat} {o : Oper} (hi : ops[i]? = some o) {σ : St} {K : St → Prop}
    (h : stepD P ops q o K σ) {a : Act} {w : World} (hok : Okay N os γ0 σ a w) {Q : Exit → Act → World → Prop} {next : Act → World → Prop} (hn : ∀ σ' a' w', K σ' → Okay N os γ0 σ' a' w' → next a' w') : wpOp P ops Q i next a w := by
  have hmem : o ∈ ops.toList := List.mem_of_getElem? (by simpa using hi)
  unfold wpOp
  simp only [hi]
  unfold stepD at h
  cases hg : o.guard with
  | none =>
    simp only [hg] at h
    have hw : Region.wanted o (yielded ops a.tmps) = true := by simp [Region.wanted, hg]
    rw [if_pos hw]
    left
    exact opG_sound (opGm_opG h) hok (hd o hmem) hn
  | some jw =>
    obtain ⟨j, want⟩ := jw
    simp only [hg] at h
    cases hdj : (ops[j]?).bind (·.dst) with
    | none => simp [hdj] at h
    | some d =>
      simp only [hdj] at h
      split at h
      · rename_i b he
        obtain ⟨hdf, hsz, γ, rfl, ha, hs, hf⟩ := hok
        have hslot := hs.slots d
        rw [he, ha] at hslot
        have hv := hslot.lit_inv
        have hy : yielded ops a.tmps j = some b := by
          unfold yielded
          rw [hdj]
          have : a.tmps[d]? = some (.bool b) := by
            rw [Array.getD_eq_getD_getElem?] at hv
            cases hx : a.tmps[d]? with
            | none => rw [hx] at hv; simp [Go.undef] at hv
            | some y => rw [hx] at hv; simp at hv; rw [hv]
          simp [this]
        by_cases hbw : b = want
        · have hw : Region.wanted o (yielded ops a.tmps) = true := by simp [Region.wanted, hg, hy, hbw]
          rw [if_pos hw]
          left
          exact opG_sound (opGm_opG (h.1 hbw)) ⟨hdf, hsz, γ, rfl, ha, hs, hf⟩ (hd o hmem) hn
        · have hw : Region.wanted o (yielded ops a.tmps) = false := by simp [Region.wanted, hg, hy, hbw]
          rw [if_neg (by rw [hw]; simp)]
          refine hn _ _ _ (h.2 hbw) ⟨by rw [put_defers]; exact hdf, by rw [put_size]; exact hsz, { γ with tmps := (a.put o.dst Go.undef).tmps }, rfl, rfl, put_sim hs ha (fun d h => by rw [hsz]; exact hd o hmem d h) (.lit _), ?_⟩
          rw [objs_put]; exact hf.put _
      · rename_i vs he
        obtain ⟨hdf, hsz, γ, rfl, ha, hs, hf⟩ := hok
        have hslot := hs.slots d
        rw [he, ha] at hslot
        have hv := hslot.lit_inv
        have hy : yielded ops a.tmps j = none := by
          unfold yielded
          rw [hdj]
          rw [Array.getD_eq_getD_getElem?] at hv
          cases hx : a.tmps[d]? with
          | none => simp [hx]
          | some y => rw [hx] at hv; simp at hv; subst hv; simp [hx]
        have hw : Region.wanted o (yielded ops a.tmps) = false := by simp [Region.wanted, hg, hy]
        rw [if_neg (by rw [hw]; simp)]
        refine hn _ _ _ h.2 ⟨by rw [put_defers]; exact hdf, by rw [put_size]; exact hsz, { γ with tmps := (a.put o.dst Go.undef).tmps }, rfl, rfl, put_sim hs ha (fun d h => by rw [hsz]; exact hd o hmem d h) (.lit _), ?_⟩
        rw [objs_put]; exact hf.put _
      · exact h.elim

/-! ### what a step hangs on -/

theorem eff_refl (c : Nat) (a : List Ob) : Eff c a a := by
  unfold Eff
  split
  · rfl
  · split
    · intro id _; rfl
    · split
      · exact ⟨rfl, fun id o o' h h' => by rw [h] at h'; simp at h'; subst h'; exact sameK_refl o⟩
      · trivial

theorem Frz.objs {σ σ2 : St} (h : σ2.objs = σ.objs) {kp : Nat → Prop} {c d : AV} (ha : Frz σ kp c d) : Frz σ2 kp c d := by
  induction ha with
  | lit x => exact .lit x
  | tree s r => exact .tree s r
  | nil sz => exact .nil sz
  | ref id sz off len rows rows' g hob hsel hl0 hw0 hg1 hg2 ih => exact .ref id sz off len rows rows' g (by rw [h]; exact hob) hsel hl0 hw0 hg1 ih

theorem ArgR.objs {σ σ2 : St} (h : σ2.objs = σ.objs) {kp : Nat → Prop} {ρ : Nat → Nat} {snap : Bool} {c d : AV} (ha : ArgR σ kp ρ snap c d) : ArgR σ2 kp ρ snap c d := by
  induction ha with
  | same v => exact .same v
  | snap c d hs hf => exact .snap c d hs (hf.objs h)
  | agg cs ds hl _ ih => exact .agg cs ds hl ih
  | tup cs ds hl _ ih => exact .tup cs ds hl ih

/-- the class of a step -/
def clsQ (q : Bool) (o : Oper) : Nat := if q then 0 else cls o.op

theorem ev_looks {ops : Array Oper} {o : Oper} {σ : St} {e2 : Nat → AV} {os : List Ob} (h : ∀ t ∈ o.looksAt ops, e2 t = σ.env t) : ∀ x ∈ o.op.operands.toList, ev ⟨e2, os⟩ x = ev σ x := by
  intro x hx
  cases x with
  | tmp t =>
    show e2 t = σ.env t
    refine h t ?_
    unfold Oper.looksAt
    rw [List.mem_append]
    left
    rw [List.mem_filterMap]
    exact ⟨_, hx, rfl⟩
  | const v => rfl
  | func f => rfl
  | global g => rfl

theorem recvK_det {σ : St} {v : AV} {K : FuncId → AV → Prop} {r : Option (FuncId × Option TypeId)} (h : recvK P σ v K r) :
    ∃ g x, K g x ∧ ∀ (e2 : Nat → AV) (K2 : FuncId → AV → Prop), K2 g x → recvK P ⟨e2, σ.objs⟩ v K2 r := by
  match r, h with
  | none, h => exact h.elim
  | some (g, none), h => exact ⟨g, v, h, fun _ _ h => h⟩
  | some (g, some e), h =>
    unfold recvK at h
    obtain ⟨hk, h⟩ := h
    cases v with
    | ptr id rr c =>
      simp only at h
      cases hrow : rowOf σ id rr with
      | none => simp [hrow] at h
      | some row =>
        simp only [hrow] at h
        obtain ⟨x, h1, h2⟩ := loadA_det h
        refine ⟨g, x, h1, fun e2 K2 hK => ?_⟩
        unfold recvK
        have : rowOf ⟨e2, σ.objs⟩ id rr = some row := hrow
        simp only [this]
        exact ⟨hk, h2 _ hK⟩
    | _ => exact h.elim

theorem opG_local {o : Oper} {σ : St} {K : St → Prop} (hW : opG P o σ K) :
    ∃ v os, Eff (cls o.op) σ.objs os ∧ K ((⟨σ.env, os⟩ : St).put o.dst v) ∧ ∀ (e2 : Nat → AV) (K2 : St → Prop), (∀ x ∈ o.op.operands.toList, ev ⟨e2, σ.objs⟩ x = ev σ x) → K2 ((⟨e2, os⟩ : St).put o.dst v) → opG P o ⟨e2, σ.objs⟩ K2 := by
  unfold opG at hW ⊢
  split at hW
  · rename_i f args ats hop
    simp only [hop]
    split at hW
    · rename_i g caps he
      obtain ⟨sel, snap, cargs, cobjs, res, cobjs', h1, ⟨h2, h3, h4, h5, h6, h7⟩, h8⟩ := hW
      refine ⟨_, _, (by simp [Eff, cls]), h8, fun e2 K2 hx hK => ?_⟩
      have e1 : ev ⟨e2, σ.objs⟩ f = .fn g caps := by rw [← he]; exact hx f (by simp [Op.operands, Call.operands])
      have e3 : args.toList.map (ev ⟨e2, σ.objs⟩) = args.toList.map (ev σ) := List.map_congr_left fun y hy => hx y (by simp only [Op.operands, Call.operands, Array.toList_append, List.mem_append]; exact .inr hy)
      simp only [e1, e3]
      exact ⟨sel, snap, cargs, cobjs, res, cobjs', h1, ⟨h2, h3, h4, h5, fun j c d hc hd => ArgR.objs (σ := σ) (σ2 := ⟨e2, σ.objs⟩) rfl (h6 j c d hc hd), h7⟩, hK⟩
    · exact hW.elim
  · rename_i r m args ats hop
    simp only [hop]
    split at hW
    · rename_i t v he
      obtain ⟨g, x, ⟨sel, snap, cargs, cobjs, res, cobjs', h1, ⟨h2, h3, h4, h5, h6, h7⟩, h8⟩, hdet⟩ := recvK_det hW
      refine ⟨_, _, (by simp [Eff, cls]), h8, fun e2 K2 hx hK => ?_⟩
      have e1 : ev ⟨e2, σ.objs⟩ r = .ifc t v := by rw [← he]; exact hx r (by simp [Op.operands, Call.operands])
      have e3 : args.toList.map (ev ⟨e2, σ.objs⟩) = args.toList.map (ev σ) := List.map_congr_left fun y hy => hx y (by simp only [Op.operands, Call.operands, Array.toList_append, List.mem_append]; exact .inr hy)
      simp only [e1, e3]
      exact hdet e2 _ ⟨sel, snap, cargs, cobjs, res, cobjs', h1, ⟨h2, h3, h4, h5, fun j c d hc hd => ArgR.objs (σ := σ) (σ2 := ⟨e2, σ.objs⟩) rfl (h6 j c d hc hd), h7⟩, hK⟩
    · exact hW.elim
  · rename_i hne
    obtain ⟨v, os, h1, h2, h3⟩ := opW_local hW
    refine ⟨v, os, h1, h2, fun e2 K2 hx hK => ?_⟩
    have := h3 e2 K2 hx hK
    exact this

theorem opG_value {o : Oper} {σ : St} {K : St → Prop} (hc : cls o.op ≤ 2) (hW : opG P o σ K) :
    ∃ v, K (σ.put o.dst v) ∧ ∀ (σ2 : St) (K2 : St → Prop), (∀ x ∈ o.op.operands.toList, ev σ2 x = ev σ x) → (∀ (id : Nat), ObjC (cls o.op) σ.objs[id]? σ2.objs[id]?) → K2 (σ2.put o.dst v) → opG P o σ2 K2 := by
  unfold opG at hW ⊢
  split at hW
  · rename_i f args ats hop
    rw [hop] at hc
    simp [cls] at hc
  · rename_i r m args ats hop
    rw [hop] at hc
    simp [cls] at hc
  · rename_i hne
    obtain ⟨v, h2, h3⟩ := opW_value hc hW
    refine ⟨v, h2, fun σ2 K2 hx ho hK => ?_⟩
    exact h3 σ2 K2 hx (fun x _ id _ => ho id) hK

theorem opGm_local {q : Bool} {o : Oper} {σ : St} {K : St → Prop} (hW : opGm q P o σ K) :
    ∃ v os, Eff (clsQ q o) σ.objs os ∧ K ((⟨σ.env, os⟩ : St).put o.dst v) ∧ ∀ (e2 : Nat → AV) (K2 : St → Prop), (∀ x ∈ o.op.operands.toList, ev ⟨e2, σ.objs⟩ x = ev σ x) → K2 ((⟨e2, os⟩ : St).put o.dst v) → opGm q P o ⟨e2, σ.objs⟩ K2 := by
  cases q with
  | false => exact opG_local hW
  | true =>
    unfold opGm at hW ⊢
    simp only at hW ⊢
    split at hW
    · rename_i f args ats hop
      simp only [hop]
      split at hW
      · rename_i g caps he
        obtain ⟨res, h1, h2, h3, h4⟩ := hW
        refine ⟨res, σ.objs, eff_refl _ _, h4, fun e2 K2 hx hK => ?_⟩
        have e1 : ev ⟨e2, σ.objs⟩ f = .fn g caps := by rw [← he]; exact hx f (by simp [Op.operands, Call.operands])
        have e3 : args.toList.map (ev ⟨e2, σ.objs⟩) = args.toList.map (ev σ) := List.map_congr_left fun y hy => hx y (by simp only [Op.operands, Call.operands, Array.toList_append, List.mem_append]; exact .inr hy)
        simp only [e1, e3]
        exact ⟨res, h1, h2, h3, hK⟩
      · exact hW.elim
    · rename_i t a hop
      obtain ⟨x, h1, h2⟩ := loadQ_det hW
      refine ⟨x, σ.objs, eff_refl _ _, h1, fun e2 K2 hx hK => ?_⟩
      rw [hx a (by simp [hop, Op.operands])]
      exact h2 _ K2 hK
    · exact hW.elim

theorem opGm_value {q : Bool} {o : Oper} {σ : St} {K : St → Prop} (hc : clsQ q o ≤ 2) (hW : opGm q P o σ K) :
    ∃ v, K (σ.put o.dst v) ∧ ∀ (σ2 : St) (K2 : St → Prop), (∀ x ∈ o.op.operands.toList, ev σ2 x = ev σ x) → (∀ (id : Nat), ObjC (clsQ q o) σ.objs[id]? σ2.objs[id]?) → K2 (σ2.put o.dst v) → opGm q P o σ2 K2 := by
  cases q with
  | false => exact opG_value hc hW
  | true =>
    unfold opGm at hW ⊢
    simp only at hW ⊢
    split at hW
    · rename_i f args ats hop
      simp only [hop]
      split at hW
      · rename_i g caps he
        obtain ⟨res, h1, h2, h3, h4⟩ := hW
        refine ⟨res, h4, fun σ2 K2 hx _ hK => ?_⟩
        have e1 : ev σ2 f = .fn g caps := by rw [← he]; exact hx f (by simp [Op.operands, Call.operands])
        have e3 : args.toList.map (ev σ2) = args.toList.map (ev σ) := List.map_congr_left fun y hy => hx y (by simp only [Op.operands, Call.operands, Array.toList_append, List.mem_append]; exact .inr hy)
        simp only [e1, e3]
        exact ⟨res, h1, h2, h3, hK⟩
      · exact hW.elim
    · rename_i t a hop
      obtain ⟨x, h1, h2⟩ := loadQ_det hW
      refine ⟨x, h1, fun σ2 K2 hx _ hK => ?_⟩
      rw [hx a (by simp [hop, Op.operands])]
      exact h2 _ K2 hK
    · exact hW.elim

theorem guard_looks {ops : Array Oper} {o : Oper} {j d : Nat} {want : Bool} (hg : o.guard = some (j, want)) (hd : (ops[j]?).bind (·.dst) = some d) : d ∈ o.looksAt ops := by
  unfold Oper.looksAt
  rw [List.mem_append]
  right
  simp [hg, hd]

theorem stepD_local {ops : Array Oper} {q : Bool} {o : Oper} {σ : St} {K : St → Prop} (hW : stepD P ops q o K σ) :
    ∃ v os, Eff (clsQ q o) σ.objs os ∧ K ((⟨σ.env, os⟩ : St).put o.dst v) ∧ ∀ (e2 : Nat → AV) (K2 : St → Prop), (∀ t ∈ o.looksAt ops, e2 t = σ.env t) → K2 ((⟨e2, os⟩ : St).put o.dst v) → stepD P ops q o K2 ⟨e2, σ.objs⟩ := by
  unfold stepD at hW ⊢
  cases hg : o.guard with
  | none =>
    simp only [hg] at hW
    obtain ⟨v, os, h1, h2, h3⟩ := opGm_local hW
    exact ⟨v, os, h1, h2, fun e2 K2 hl hK => h3 e2 K2 (ev_looks hl) hK⟩
  | some jw =>
    obtain ⟨j, want⟩ := jw
    simp only [hg] at hW
    cases hdj : (ops[j]?).bind (·.dst) with
    | none => simp [hdj] at hW
    | some d =>
      simp only [hdj] at hW
      split at hW
      · rename_i b he
        by_cases hbw : b = want
        · obtain ⟨v, os, h1, h2, h3⟩ := opGm_local (hW.1 hbw)
          refine ⟨v, os, h1, h2, fun e2 K2 hl hK => ?_⟩
          have : e2 d = .lit (.bool b) := by rw [hl d (guard_looks hg hdj)]; exact he
          simp only [hdj, this]
          exact ⟨fun _ => h3 e2 K2 (ev_looks hl) hK, fun hn => absurd hbw hn⟩
        · refine ⟨.lit (.tuple #[]), σ.objs, eff_refl _ _, hW.2 hbw, fun e2 K2 hl hK => ?_⟩
          have : e2 d = .lit (.bool b) := by rw [hl d (guard_looks hg hdj)]; exact he
          simp only [hdj, this]
          exact ⟨fun hn => absurd hn hbw, fun _ => hK⟩
      · rename_i vs he
        refine ⟨.lit (.tuple #[]), σ.objs, eff_refl _ _, hW.2, fun e2 K2 hl hK => ?_⟩
        have : e2 d = .lit (.tuple vs) := by rw [hl d (guard_looks hg hdj)]; exact he
        simp only [hdj, this]
        exact ⟨hW.1, hK⟩
      · exact hW.elim

theorem stepD_value {ops : Array Oper} {q : Bool} {o : Oper} {σ : St} {K : St → Prop} (hc : clsQ q o ≤ 2) (hW : stepD P ops q o K σ) :
    ∃ v, K (σ.put o.dst v) ∧ ∀ (σ2 : St) (K2 : St → Prop), (∀ t ∈ o.looksAt ops, σ2.env t = σ.env t) → (∀ (id : Nat), ObjC (clsQ q o) σ.objs[id]? σ2.objs[id]?) → K2 (σ2.put o.dst v) → stepD P ops q o K2 σ2 := by
  unfold stepD at hW ⊢
  cases hg : o.guard with
  | none =>
    simp only [hg] at hW
    obtain ⟨v, h2, h3⟩ := opGm_value hc hW
    exact ⟨v, h2, fun σ2 K2 hl ho hK => h3 σ2 K2 (ev_looks (e2 := σ2.env) (os := σ2.objs) hl) ho hK⟩
  | some jw =>
    obtain ⟨j, want⟩ := jw
    simp only [hg] at hW
    cases hdj : (ops[j]?).bind (·.dst) with
    | none => simp [hdj] at hW
    | some d =>
      simp only [hdj] at hW
      split at hW
      · rename_i b he
        by_cases hbw : b = want
        · obtain ⟨v, h2, h3⟩ := opGm_value hc (hW.1 hbw)
          refine ⟨v, h2, fun σ2 K2 hl ho hK => ?_⟩
          have : σ2.env d = .lit (.bool b) := by rw [hl d (guard_looks hg hdj)]; exact he
          simp only [hdj, this]
          exact ⟨fun _ => h3 σ2 K2 (ev_looks (e2 := σ2.env) (os := σ2.objs) hl) ho hK, fun hn => absurd hbw hn⟩
        · refine ⟨.lit (.tuple #[]), hW.2 hbw, fun σ2 K2 hl ho hK => ?_⟩
          have : σ2.env d = .lit (.bool b) := by rw [hl d (guard_looks hg hdj)]; exact he
          simp only [hdj, this]
          exact ⟨fun hn => absurd hn hbw, fun _ => hK⟩
      · rename_i vs he
        refine ⟨.lit (.tuple #[]), hW.2, fun σ2 K2 hl ho hK => ?_⟩
        have : σ2.env d = .lit (.tuple vs) := by rw [hl d (guard_looks hg hdj)]; exact he
        simp only [hdj, this]
        exact ⟨hW.1, hK⟩
      · exact hW.elim

/-! ### two steps change places -/

theorem put_env_ne {σ : St} {dst : Option Tmp} {v : AV} {t : Nat} (h : ∀ d, dst = some d → d ≠ t) : (σ.put dst v).env t = σ.env t := by
  cases dst with
  | none => rfl
  | some d =>
    have := h d rfl
    simp [St.put, upd, Ne.symm this]

theorem put_comm' {σ : St} {x y : Option Tmp} {v u : AV} (h : ∀ d, x = some d → y ≠ some d) : (σ.put x v).put y u = (σ.put y u).put x v := by
  cases x with
  | none => rfl
  | some d =>
    cases y with
    | none => rfl
    | some d' =>
      have hne : d' ≠ d := fun e => h d rfl (by rw [e])
      simp only [St.put]
      congr 1
      funext k
      simp only [upd]
      split <;> split <;> simp_all

theorem put_objs {σ : St} {x : Option Tmp} {v : AV} : (σ.put x v).objs = σ.objs := by cases x <;> rfl
theorem put_eta {σ : St} {x : Option Tmp} {v : AV} : σ.put x v = ⟨(σ.put x v).env, σ.objs⟩ := by cases x <;> rfl

theorem put_over {σ : St} {os : List Ob} {x : Option Tmp} {v : AV} : (⟨(σ.put x v).env, os⟩ : St) = (⟨σ.env, os⟩ : St).put x v := by cases x <;> rfl

def compat (ci ck : Nat) : Bool := ci == 0 || ck == 0 || (ci == 1 && decide (ck ≤ 4)) || (ci == 2 && decide (ck ≤ 3))

theorem eff_objC {ci ck : Nat} (h : (ci == 0 || (ci == 1 && decide (ck ≤ 4)) || (ci == 2 && decide (ck ≤ 3))) = true) {a b : List Ob} (he : Eff ck a b) (id : Nat) : ObjC ci a[id]? b[id]? := by
  simp only [Bool.or_eq_true, Bool.and_eq_true, beq_iff_eq, decide_eq_true_eq] at h
  rcases h with (rfl | ⟨rfl, hk⟩) | ⟨rfl, hk⟩
  · simp [ObjC]
  · unfold Eff at he
    have : ∀ o, a[id]? = some o → ∃ o', b[id]? = some o' ∧ sameK o o' := by
      intro o ho
      have hlt := (List.getElem?_eq_some_iff.1 ho).1
      split at he
      · subst he; exact ⟨o, ho, sameK_refl o⟩
      · split at he
        · exact ⟨o, by rw [he id hlt]; exact ho, sameK_refl o⟩
        · split at he
          · have hb : id < b.length := by omega
            exact ⟨b[id], by simp [hb], he.2 id o _ ho (by simp [hb])⟩
          · omega
    simpa [ObjC] using this
  · unfold Eff at he
    have : ∀ o, a[id]? = some o → b[id]? = some o := by
      intro o ho
      have hlt := (List.getElem?_eq_some_iff.1 ho).1
      split at he
      · subst he; exact ho
      · split at he
        · rw [he id hlt]; exact ho
        · omega
    simpa [ObjC] using this

theorem swap_value {ops : Array Oper} {qi qk : Bool} {oi ok : Oper} (ha : oi.apart ops ok = true) (hi : clsQ qi oi ≤ 2)
    (hc : (clsQ qi oi == 0 || (clsQ qi oi == 1 && decide (clsQ qk ok ≤ 4)) || (clsQ qi oi == 2 && decide (clsQ qk ok ≤ 3))) = true) {σ : St} {K : St → Prop}
    (h : stepD P ops qi oi (stepD P ops qk ok K) σ) : stepD P ops qk ok (stepD P ops qi oi K) σ := by
  obtain ⟨a1, a2, a3⟩ := Oper.apart_spec ha
  obtain ⟨v, h1, run⟩ := stepD_value hi h
  obtain ⟨vk, os, heff, h2, run2⟩ := stepD_local h1
  rw [put_objs] at heff run2
  refine run2 σ.env _ (fun t ht => (put_env_ne fun d hd e => a1 d hd (e ▸ ht)).symm) ?_
  refine run _ _ (fun t ht => ?_) (fun id => ?_) ?_
  · rw [put_env_ne fun d hd e => a3 d hd (e ▸ ht)]
  · rw [put_objs]; exact eff_objC hc heff id
  · rw [put_over] at h2
    rw [put_comm' (fun d hd e => a2 d e hd)]
    exact h2

theorem swap_quiet {ops : Array Oper} {qi qk : Bool} {oi ok : Oper} (ha : oi.apart ops ok = true) (hk : clsQ qk ok = 0) {σ : St} {K : St → Prop}
    (h : stepD P ops qi oi (stepD P ops qk ok K) σ) : stepD P ops qk ok (stepD P ops qi oi K) σ := by
  obtain ⟨a1, a2, a3⟩ := Oper.apart_spec ha
  obtain ⟨vi, os, heff, h1, run⟩ := stepD_local h
  obtain ⟨vk, h2, runk⟩ := stepD_value (by omega) h1
  refine runk σ _ (fun t ht => (put_env_ne (σ := ⟨σ.env, os⟩) fun d hd e => a1 d hd (e ▸ ht)).symm) (fun id => by rw [hk]; simp [ObjC]) ?_
  rw [put_eta]
  refine run _ _ (fun t ht => put_env_ne fun d hd e => a3 d hd (e ▸ ht)) ?_
  rw [put_over, put_comm' (fun d hd e => a2 d e hd)]
  exact h2

theorem swap_steps {ops : Array Oper} {qi qk : Bool} {oi ok : Oper} (ha : oi.apart ops ok = true) (hc : compat (clsQ qi oi) (clsQ qk ok) = true) {σ : St} {K : St → Prop}
    (h : stepD P ops qi oi (stepD P ops qk ok K) σ) : stepD P ops qk ok (stepD P ops qi oi K) σ := by
  by_cases hk : clsQ qk ok = 0
  · exact swap_quiet ha hk h
  · have hc' : (clsQ qi oi == 0 || (clsQ qi oi == 1 && decide (clsQ qk ok ≤ 4)) || (clsQ qi oi == 2 && decide (clsQ qk ok ≤ 3))) = true := by
      simp only [compat, Bool.or_eq_true, Bool.and_eq_true, beq_iff_eq, decide_eq_true_eq] at hc ⊢
      rcases hc with ((h | h) | h) | h
      · exact .inl (.inl h)
      · exact absurd h hk
      · exact .inl (.inr h)
      · exact .inr h
    refine swap_value ha ?_ hc' h
    simp only [Bool.or_eq_true, Bool.and_eq_true, beq_iff_eq, decide_eq_true_eq] at hc'
    omega

end Go.Am
end
section
namespace Go.Am
variable {P : Program} {N n0 : Nat} {σ : St}

def stepAt (P : Program) (ops : Array Oper) (qs : List Nat) (i : Nat) (K : St → Prop) (σ : St) : Prop :=
  match ops[i]? with
  | none => K σ
  | some o => stepD P ops (qs.contains i) o K σ

/-- every order -/
def anyW (P : Program) (ops : Array Oper) (qs : List Nat) (K : St → Prop) : Nat → Array Bool → St → Prop
  | 0, listed, σ => Region.ready .any ops listed = [] ∧ K σ
  | n + 1, listed, σ => (Region.ready .any ops listed = [] → K σ) ∧ ∀ i ∈ Region.ready .any ops listed, stepAt P ops qs i (anyW P ops qs K n (listed.setIfInBounds i true)) σ

theorem stepD_mono {ops : Array Oper} {q : Bool} {o : Oper} {σ : St} {K K2 : St → Prop} (hk : ∀ s, K s → K2 s) (h : stepD P ops q o K σ) : stepD P ops q o K2 σ := by
  obtain ⟨v, os, _, h2, run⟩ := stepD_local h
  exact run σ.env K2 (fun _ _ => rfl) (hk _ h2)

theorem stepD_some {ops : Array Oper} {q : Bool} {o : Oper} {σ : St} {K : St → Prop} (h : stepD P ops q o K σ) : ∃ s, K s := by
  obtain ⟨v, os, _, h2, run⟩ := stepD_local h
  exact ⟨_, h2⟩

theorem stepAt_mono {ops : Array Oper} {qs : List Nat} {i : Nat} {σ : St} {K K2 : St → Prop} (hk : ∀ s, K s → K2 s) (h : stepAt P ops qs i K σ) : stepAt P ops qs i K2 σ := by
  unfold stepAt at h ⊢
  split at h
  · exact hk _ h
  · exact stepD_mono hk h

theorem stepAt_some {ops : Array Oper} {qs : List Nat} {i : Nat} {σ : St} {K : St → Prop} (h : stepAt P ops qs i K σ) : ∃ s, K s := by
  unfold stepAt at h
  split at h
  · exact ⟨_, h⟩
  · exact stepD_some h

theorem anyW_sound {os : List Ob} {γ0 : Cx} {ops : Array Oper} {qs : List Nat} (hd : ∀ o ∈ ops.toList, ∀ d, o.dst = some d → d < N) {K : St → Prop} {Q : Exit → Act → World → Prop}
    (hQ : ∀ σ' a' w', K σ' → Okay N os γ0 σ' a' w' → Q .normal a' w') : ∀ (n : Nat) (listed : Array Bool) (σ : St) (a : Act) (w : World), anyW P ops qs K n listed σ → Okay N os γ0 σ a w → wpAny P .any ops Q n listed a w
  | 0, listed, σ, a, w, h, hok => ⟨h.1, hQ _ _ _ h.2 hok⟩
  | n + 1, listed, σ, a, w, h, hok => by
    refine ⟨fun hr => hQ _ _ _ (h.1 hr) hok, fun i hi => ?_⟩
    have := h.2 i hi
    unfold stepAt at this
    split at this
    · rename_i hi'
      unfold wpOp
      simp only [hi']
      exact anyW_sound hd hQ n _ _ _ _ this hok
    · rename_i o hi'
      exact stepD_sound hd hi' this hok fun σ' a' w' hK hok' => anyW_sound hd hQ n _ _ _ _ hK hok'

theorem W_region_any {id : Nat} {ops : Array Oper} {Q : Exit → St → Prop} (qs : List Nat) (hm : P.follows .mixedOrders = true) (hd : dstOK N ops = true)
    (h : anyW P ops qs (Q .normal) ops.size (Array.replicate ops.size false) σ) : W P N n0 (.region id ops true) Q σ := by
  intro os γ0 a w _ hok
  refine wp_region_any hm ?_
  exact anyW_sound (dstOK_spec hd) (K := Q .normal) (fun σ' a' w' hK hok' => ⟨σ', hK, hok'⟩) _ _ _ _ _ h hok.drawn

theorem any_take {ops : Array Oper} {qs : List Nat} {K : St → Prop} {i : Nat} {o : Oper} (hi : ops[i]? = some o) (D : List Nat) (hiD : i ∈ D)
    (hD : ∀ j ∈ D, j = i ∨ ∃ oj, ops[j]? = some oj ∧ ∃ e ∈ oj.after, Region.binds .any e = true ∧ e.on ∈ D) : ∀ (fuel : Nat) (listed : Array Bool) (σ : St), (∀ j ∈ D, listed.getD j true = false) →
      i ∈ Region.ready .any ops listed →
      (∀ j oj, ops[j]? = some oj → listed.getD j true = false → j ∉ D → o.apart ops oj = true ∧ compat (clsQ (qs.contains i) o) (clsQ (qs.contains j) oj) = true) →
      stepAt P ops qs i (anyW P ops qs K fuel (listed.setIfInBounds i true)) σ → anyW P ops qs K (fuel + 1) listed σ := by
  intro fuel
  induction fuel with
  | zero =>
    intro listed σ hu hr hap h
    refine ⟨fun e => by rw [e] at hr; simp at hr, fun k hk => ?_⟩
    by_cases hki : k = i
    · subst hki; exact h
    · obtain ⟨s, hs⟩ := stepAt_some h
      have := ready_mono hk hki
      rw [hs.1] at this
      simp at this
  | succ m ih =>
    intro listed σ hu hr hap h
    refine ⟨fun e => by rw [e] at hr; simp at hr, fun k hk => ?_⟩
    by_cases hki : k = i
    · subst hki; exact h
    · have hkr := mem_ready.1 hk
      obtain ⟨hkl, ok, hok, hke⟩ := hkr
      have hkD : k ∉ D := by
        intro hkD
        rcases hD k hkD with e | ⟨oj, hoj, e, he, hb, hon⟩
        · exact hki e
        · rw [hok] at hoj
          simp only [Option.some.injEq] at hoj
          subst hoj
          have h1 := hke e he hb
          have h2 := hu e.on hon
          rw [Array.getD_eq_getD_getElem?] at h1 h2
          cases hx : listed[e.on]? with
          | none => rw [hx] at h1; simp at h1
          | some b => rw [hx] at h1 h2; simp at h1 h2; rw [h1] at h2; simp at h2
      obtain ⟨ha, hc⟩ := hap k ok hok hkl hkD
      have h1 : stepAt P ops qs i (stepAt P ops qs k (anyW P ops qs K m ((listed.setIfInBounds i true).setIfInBounds k true))) σ :=
        stepAt_mono (fun s hs => hs.2 k (ready_mono hk hki)) h
      have h2 : stepAt P ops qs k (stepAt P ops qs i (anyW P ops qs K m ((listed.setIfInBounds i true).setIfInBounds k true))) σ := by
        unfold stepAt at h1 ⊢
        simp only [hi, hok] at h1 ⊢
        exact swap_steps ha hc h1
      refine stepAt_mono (fun s hs => ?_) h2
      refine ih (listed.setIfInBounds k true) s (fun j hj => ?_) (ready_mono hr (Ne.symm hki)) (fun j oj hoj hl hjD => ?_) ?_
      · have hne : k ≠ j := fun e => hkD (by rw [e]; exact hj)
        rw [getD_set_ne _ hne]; exact hu j hj
      · refine hap j oj hoj ?_ hjD
        by_cases hjk : k = j
        · subst hjk; exact hkl
        · rwa [getD_set_ne _ hjk] at hl
      · rw [Array.setIfInBounds_comm _ _ (Ne.symm hki)] at hs
        exact hs

/-- what comes behind an operation in every order -/
def depsOf (ops : Array Oper) (i : Nat) : List Nat :=
  (List.range ops.size).foldl (fun D j => if j == i || (match ops[j]? with | some oj => oj.after.any (fun e => Region.binds .any e && D.contains e.on) | none => false) then D ++ [j] else D) []

def takeOK (ops : Array Oper) (qs : List Nat) (listed : Array Bool) (i : Nat) (D : List Nat) : Bool :=
  match ops[i]? with
  | none => false
  | some o =>
    D.contains i && D.all (fun j => j == i || match ops[j]? with | some oj => oj.after.any (fun e => Region.binds .any e && D.contains e.on) | none => false) &&
    D.all (fun j => !listed.getD j true) && o.after.all (fun e => !Region.binds .any e || listed.getD e.on false) &&
    (List.range ops.size).all fun j => D.contains j || listed.getD j true || match ops[j]? with | some oj => o.apart ops oj && compat (clsQ (qs.contains i) o) (clsQ (qs.contains j) oj) | none => true

theorem take_ok {ops : Array Oper} {qs : List Nat} {K : St → Prop} {i : Nat} {D : List Nat} {fuel : Nat} {listed : Array Bool} (h : takeOK ops qs listed i D = true)
    (hs : stepAt P ops qs i (anyW P ops qs K fuel (listed.setIfInBounds i true)) σ) : anyW P ops qs K (fuel + 1) listed σ := by
  unfold takeOK at h
  cases hi : ops[i]? with
  | none => simp [hi] at h
  | some o =>
    simp only [hi, Bool.and_eq_true, List.all_eq_true, List.contains_iff_mem, Bool.or_eq_true, beq_iff_eq, Bool.not_eq_true'] at h
    obtain ⟨⟨⟨⟨h1, h2⟩, h3⟩, h4⟩, h5⟩ := h
    refine any_take hi D h1 (fun j hj => ?_) fuel listed σ h3 ?_ ?_ hs
    · rcases h2 j hj with h | h
      · exact .inl h
      · right
        split at h
        · rename_i oj hoj
          rw [Array.any_eq_true'] at h
          obtain ⟨e, he, hb⟩ := h
          simp only [Bool.and_eq_true, List.contains_iff_mem] at hb
          exact ⟨oj, hoj, e, he, hb.1, hb.2⟩
        · simp at h
    · rw [mem_ready]
      refine ⟨h3 i h1, o, hi, fun e he hb => ?_⟩
      rw [Array.all_eq_true'] at h4
      have := h4 e he
      simpa [hb] using this
    · intro j oj hoj hl hjD
      have hj : j < ops.size := (Array.getElem?_eq_some_iff.1 hoj).1
      rcases h5 j (List.mem_range.2 hj) with (h | h) | h
      · exact absurd h hjD
      · rw [hl] at h; simp at h
      · simpa [hoj] using h

/-- a plan of a region's orders -/
inductive PT where
  | nil
  | take (i : Nat) (t : PT)
  | both (i : Nat) (t : PT) (j : Nat) (u : PT)
  | three (i : Nat) (t : PT) (j : Nat) (u : PT) (k : Nat) (v : PT)

def PT.ok (ops : Array Oper) (qs : List Nat) : PT → Nat → Array Bool → Bool
  | .nil, n, listed => n == 0 && (Region.ready .any ops listed).isEmpty
  | .take _ _, 0, _ => false
  | .take i t, n + 1, listed => takeOK ops qs listed i (depsOf ops i) && t.ok ops qs n (listed.setIfInBounds i true)
  | .both _ _ _ _, 0, _ => false
  | .both i t j u, n + 1, listed => (Region.ready .any ops listed == [i, j]) && t.ok ops qs n (listed.setIfInBounds i true) && u.ok ops qs n (listed.setIfInBounds j true)
  | .three _ _ _ _ _ _, 0, _ => false
  | .three i t j u k v, n + 1, listed => (Region.ready .any ops listed == [i, j, k]) && t.ok ops qs n (listed.setIfInBounds i true) && u.ok ops qs n (listed.setIfInBounds j true) && v.ok ops qs n (listed.setIfInBounds k true)

def planW (P : Program) (ops : Array Oper) (qs : List Nat) : PT → (St → Prop) → St → Prop
  | .nil, K, σ => K σ
  | .take i t, K, σ => stepAt P ops qs i (planW P ops qs t K) σ
  | .both i t j u, K, σ => stepAt P ops qs i (planW P ops qs t K) σ ∧ stepAt P ops qs j (planW P ops qs u K) σ
  | .three i t j u k v, K, σ => stepAt P ops qs i (planW P ops qs t K) σ ∧ stepAt P ops qs j (planW P ops qs u K) σ ∧ stepAt P ops qs k (planW P ops qs v K) σ

theorem plan_any {ops : Array Oper} {qs : List Nat} {K : St → Prop} : ∀ (t : PT) (n : Nat) (listed : Array Bool) (σ : St), t.ok ops qs n listed = true → planW P ops qs t K σ → anyW P ops qs K n listed σ
  | .nil, n, listed, σ, h, hp => by
    simp only [PT.ok, Bool.and_eq_true, beq_iff_eq, List.isEmpty_iff] at h
    obtain ⟨rfl, h⟩ := h
    exact ⟨h, hp⟩
  | .take _ _, 0, _, _, h, _ => by simp [PT.ok] at h
  | .take i t, n + 1, listed, σ, h, hp => by
    simp only [PT.ok, Bool.and_eq_true] at h
    exact take_ok h.1 (stepAt_mono (fun s hs => plan_any t n _ s h.2 hs) hp)
  | .both _ _ _ _, 0, _, _, h, _ => by simp [PT.ok] at h
  | .both i t j u, n + 1, listed, σ, h, hp => by
    simp only [PT.ok, Bool.and_eq_true, beq_iff_eq] at h
    obtain ⟨⟨h1, h2⟩, h3⟩ := h
    refine ⟨fun e => by rw [h1] at e; simp at e, fun k hk => ?_⟩
    rw [h1] at hk
    simp only [List.mem_cons, List.not_mem_nil, or_false] at hk
    rcases hk with rfl | rfl
    · exact stepAt_mono (fun s hs => plan_any t n _ s h2 hs) hp.1
    · exact stepAt_mono (fun s hs => plan_any u n _ s h3 hs) hp.2
  | .three _ _ _ _ _ _, 0, _, _, h, _ => by simp [PT.ok] at h
  | .three i t j u k v, n + 1, listed, σ, h, hp => by
    simp only [PT.ok, Bool.and_eq_true, beq_iff_eq] at h
    obtain ⟨⟨⟨h1, h2⟩, h3⟩, h4⟩ := h
    refine ⟨fun e => by rw [h1] at e; simp at e, fun x hk => ?_⟩
    rw [h1] at hk
    simp only [List.mem_cons, List.not_mem_nil, or_false] at hk
    rcases hk with rfl | rfl | rfl
    · exact stepAt_mono (fun s hs => plan_any t n _ s h2 hs) hp.1
    · exact stepAt_mono (fun s hs => plan_any u n _ s h3 hs) hp.2.1
    · exact stepAt_mono (fun s hs => plan_any v n _ s h4 hs) hp.2.2

theorem W_draw {id : Nat} {ops : Array Oper} {Q : Exit → St → Prop} (qs : List Nat) (t : PT) (hm : P.follows .mixedOrders = true) (hd : dstOK N ops = true) (ht : t.ok ops qs ops.size (Array.replicate ops.size false) = true)
    (h : planW P ops qs t (Q .normal) σ) : W P N n0 (.region id ops true) Q σ :=
  W_region_any qs hm hd (plan_any t _ _ σ ht h)

theorem W_draw_k {id : Nat} {ops : Array Oper} {y : Code} {Q : Exit → St → Prop} (qs : List Nat) (t : PT) (hm : P.follows .mixedOrders = true) (hd : dstOK N ops = true) (ht : t.ok ops qs ops.size (Array.replicate ops.size false) = true)
    (h : ∀ K : St → Prop, (∀ s, W P N n0 y Q s → K s) → planW P ops qs t K σ) : W P N n0 (.seq (.region id ops true) y) Q σ :=
  W_seq (W_draw qs t hm hd ht (h _ (fun _ h => h)))

theorem planW_nil {ops : Array Oper} {qs : List Nat} {K : St → Prop} : planW P ops qs .nil K σ = K σ := rfl
theorem planW_take {ops : Array Oper} {qs : List Nat} {i : Nat} {t : PT} {K : St → Prop} : planW P ops qs (.take i t) K σ = stepAt P ops qs i (planW P ops qs t K) σ := rfl
theorem planW_three {ops : Array Oper} {qs : List Nat} {i j k : Nat} {t u v : PT} {K : St → Prop} : planW P ops qs (.three i t j u k v) K σ = (stepAt P ops qs i (planW P ops qs t K) σ ∧ stepAt P ops qs j (planW P ops qs u K) σ ∧ stepAt P ops qs k (planW P ops qs v K) σ) := rfl
theorem planW_both {ops : Array Oper} {qs : List Nat} {i j : Nat} {t u : PT} {K : St → Prop} : planW P ops qs (.both i t j u) K σ = (stepAt P ops qs i (planW P ops qs t K) σ ∧ stepAt P ops qs j (planW P ops qs u K) σ) := rfl
theorem opGm_false {o : Oper} {K : St → Prop} : opGm false P o σ K = opG P o σ K := rfl
theorem guardM_tt {q : Bool} {o : Oper} {K : St → Prop} : guardM q P o K true true σ = opGm q P o σ K := by simp [guardM]
theorem guardM_ff {q : Bool} {o : Oper} {K : St → Prop} : guardM q P o K false false σ = opGm q P o σ K := by simp [guardM]
theorem guardM_tf {q : Bool} {o : Oper} {K : St → Prop} : guardM q P o K true false σ = K (σ.put o.dst (.lit (.tuple #[]))) := by simp [guardM]
theorem guardM_ft {q : Bool} {o : Oper} {K : St → Prop} : guardM q P o K false true σ = K (σ.put o.dst (.lit (.tuple #[]))) := by simp [guardM]
theorem guardM_split {q : Bool} {o : Oper} {K : St → Prop} {b want : Bool} (h1 : b = true → guardM q P o K true want σ) (h2 : b = false → guardM q P o K false want σ) : guardM q P o K b want σ := by
  cases b
  · exact h2 rfl
  · exact h1 rfl

/-- the plan that follows a list -/
def seqP : List Nat → PT
  | [] => .nil
  | i :: r => .take i (seqP r)

end Go.Am
end
