import Derived.Test.YtohdbmmapbaalaaAm12
namespace Go.Am
variable {P : Program}

/-- SELECTION: objects are dropped, renumbered, given up; with snap what is not kept may be read from now on, and never written -/
theorem Sim.select {σ : St} {γ : Cx} (h : Sim σ γ) (sel : List Nat) (snap : Bool) (cobjs : List Ob) (hnd : sel.Nodup) (hcl : cobjs.length = sel.length)
    (hco : ∀ (j : Nat) o, cobjs[j]? = some o → o = .gone ∨ σ.objs[sel.getD j 0]? = some (renO (rho σ.objs.length sel) o)) (hsl : ∀ i ∈ sel, i < σ.objs.length)
    (e : Nat → AV) (tm : Array Value)
    (he : ∀ k, e k = .undef ∨ ∃ d, ArgR σ (fun id => ∃ j, j < sel.length ∧ sel.getD j 0 = id ∧ cobjs[j]? ≠ some .gone) (rho σ.objs.length sel) snap (e k) d ∧ RelV σ.objs γ.w γ.Z γ.blk d (tm.getD k Go.undef)) :
    ∃ γ', γ'.w = γ.w ∧ γ'.tmps = tm ∧ Sim ⟨e, cobjs⟩ γ' ∧ ((∀ i, i < cobjs.length → γ'.blk i = γ.blk (sel.getD i 0)) ∧ (∀ b, γ.Z b → γ'.Z b) ∧ (∀ b, γ'.Z b → γ.Z b ∨ Owned σ.objs γ.blk b) ∧
      ∀ i, Live cobjs i → Live σ.objs (sel.getD i 0) ∧ ∃ o, cobjs[i]? = some o ∧ σ.objs[sel.getD i 0]? = some (renO (rho σ.objs.length sel) o)) := by
  let ρ := rho σ.objs.length sel
  let kp : Nat → Prop := fun id => ∃ j, j < sel.length ∧ sel.getD j 0 = id ∧ cobjs[j]? ≠ some .gone
  let S : Nat → Prop := fun b => snap = true ∧ ∃ id o cap, ¬ kp id ∧ Live σ.objs id ∧ γ.blk id = some (b, o, cap)
  let γc : Cx := { w := γ.w, tmps := tm, Z := fun b => γ.Z b ∨ S b, blk := fun j => if j < sel.length then γ.blk (sel.getD j 0) else none }
  have hdown : ∀ j x, σ.objs[ρ j]? = some x → ∃ o, cobjs[j]? = some o ∧ (o = .gone ∨ (x = renO ρ o ∧ γc.blk j = γ.blk (ρ j))) := by
    intro j x hx
    obtain ⟨hj, hr⟩ := rho_lt hsl (List.getElem?_eq_some_iff.1 hx).1
    have hjc : j < cobjs.length := by omega
    refine ⟨cobjs[j], by simp [hjc], ?_⟩
    rcases hco j cobjs[j] (by simp [hjc]) with hg | this
    · exact .inl hg
    · right
      refine ⟨?_, ?_⟩
      · have hx' : σ.objs[rho σ.objs.length sel j]? = some x := hx
        rw [hr, this] at hx'
        simpa using hx'.symm
      · show (if j < sel.length then γ.blk (sel.getD j 0) else none) = γ.blk (rho σ.objs.length sel j)
        rw [if_pos hj, hr]
  have hzc : ∀ b, γ.Z b → γc.Z b := fun b hb => .inl hb
  have hclive : ∀ j, Live cobjs j → Live σ.objs (sel.getD j 0) ∧ j < sel.length ∧ kp (sel.getD j 0) ∧ ∃ o, cobjs[j]? = some o ∧ σ.objs[sel.getD j 0]? = some (renO ρ o) := by
    rintro j ⟨o, ho, hg⟩
    have hj := (List.getElem?_eq_some_iff.1 ho).1
    rcases hco j o ho with h' | h'
    · exact absurd h' hg
    · exact ⟨⟨_, h', fun e => hg (renO_gone.1 e)⟩, by omega, ⟨j, by omega, rfl, by rw [ho]; simpa using hg⟩, o, ho, h'⟩
  have hbe : ∀ j, j < sel.length → γc.blk j = γ.blk (sel.getD j 0) := fun j hj => by show (if j < sel.length then _ else _) = _; rw [if_pos hj]
  have hsimc : Sim ⟨e, cobjs⟩ γc := by
    refine ⟨fun k => ?_, ?_, ?_, ?_, ?_⟩
    · rcases he k with h0 | ⟨d, hd, hr⟩
      · show RelV cobjs γc.w γc.Z γc.blk (e k) _
        rw [h0]; exact .undef _
      · exact hd.rel h hzc rfl (fun hs id b o cap hid hl hb => .inr ⟨hs, id, o, cap, hid, hl, hb⟩) hdown _ hr
    · intro j o ho
      by_cases hgo : o = .gone
      · subst hgo; trivial
      obtain ⟨_, hjs, _, o', ho', hob'⟩ := hclive j ⟨o, ho, hgo⟩
      have : o = o' := by
        have h1 : cobjs[j]? = some o := ho
        rw [ho'] at h1; simpa using h1.symm
      subst this
      have hob := h.obs _ _ hob'
      have hb := hbe j hjs
      cases o with
      | gone => trivial
      | var cells =>
        obtain ⟨b, cap, cur, t, h1, h2, h3, h4⟩ := hob
        exact ⟨b, cap, cur, t, hb.trans h1, h2, by simpa using h3, fun c v hv => (h4 c (ren ρ v) (by simp only [List.getElem?_map, hv]; rfl)).down hzc hdown v rfl⟩
      | arr sz rows =>
        obtain ⟨h0, hr, hob⟩ := hob
        refine ⟨h0, fun row hrow => by simpa using hr (row.map (ren ρ)) (List.mem_map_of_mem hrow), ?_⟩
        rcases hob with ⟨h1, h2⟩ | ⟨b, o, cap, cur, t, h1, h2, h3, h4, h5, h6⟩
        · exact .inl ⟨hb.trans h1, by simpa using h2⟩
        · refine .inr ⟨b, o, cap, cur, t, hb.trans h1, h2, h3, by simpa using h4, h5, fun r c v hv => (h6 r c (ren ρ v) ?_).down hzc hdown v rfl⟩
          simp only [cellAt, List.getElem?_map] at hv ⊢
          cases hrr : rows[r]? with
          | none => simp [hrr] at hv
          | some row => simp [hrr] at hv ⊢; exact ⟨v, hv, rfl⟩
    · intro i j b o c o' c' hi hj hbi hbj
      obtain ⟨h1, h2, _⟩ := hclive i hi
      obtain ⟨h3, h4, _⟩ := hclive j hj
      exact nodup_getD hnd h2 h4 (h.inj _ _ b o c o' c' h1 h3 (hbe i h2 ▸ hbi) (hbe j h4 ▸ hbj))
    · rintro b ⟨i, o, c, hi, hb⟩ hz
      obtain ⟨h1, h2, h3, _⟩ := hclive i hi
      rw [hbe i h2] at hb
      rcases hz with hz | ⟨_, id, o', cap', hid, hl, hb'⟩
      · exact h.nz b ⟨_, o, c, h1, hb⟩ hz
      · have := h.inj _ _ b o c o' cap' h1 hl hb hb'
        exact hid (this ▸ h3)
    · rintro b (hb | ⟨_, id, o, cap, _, hl, hb⟩)
      · exact h.zlt b hb
      · exact h.blt hl hb
  refine ⟨γc, rfl, rfl, hsimc, fun i hi => hbe i (by omega), hzc, ?_, ?_⟩
  · rintro b (hb | ⟨_, id, o, cap, _, hl, hb⟩)
    · exact .inl hb
    · exact .inr ⟨id, o, cap, hl, hb⟩
  · intro i hi
    obtain ⟨h1, h2, _, h4⟩ := hclive i hi
    exact ⟨h1, h4⟩

theorem Ob.like_renO {ρ : Nat → Nat} {x o : Ob} (h : x.like (renO ρ o)) : x.like o := by
  cases x <;> cases o <;> simp [Ob.like, renO] at h ⊢ <;> exact h

/-- the frame behind a selection that leaves the activation's first objects where they are -/
theorem Fr.select {os : List Ob} {γ0 γ γ' : Cx} {σ : St} (hf : Fr os γ0 σ.objs γ) {sel : List Nat} {cobjs : List Ob} (hn : os.length ≤ sel.length) (hcl : cobjs.length = sel.length)
    (hid : ∀ i, i < os.length → sel.getD i 0 = i) (hw : γ'.w = γ.w)
    (h : (∀ i, i < cobjs.length → γ'.blk i = γ.blk (sel.getD i 0)) ∧ (∀ b, γ.Z b → γ'.Z b) ∧ (∀ b, γ'.Z b → γ.Z b ∨ Owned σ.objs γ.blk b) ∧
      ∀ i, Live cobjs i → Live σ.objs (sel.getD i 0) ∧ ∃ o, cobjs[i]? = some o ∧ σ.objs[sel.getD i 0]? = some (renO (rho σ.objs.length sel) o)) : Fr os γ0 cobjs γ' := by
  obtain ⟨h1, h2, h3, h4⟩ := h
  refine ⟨by rw [hw]; exact hf.eos, by rw [hw]; exact hf.tape, by rw [hw]; exact hf.output, by rw [hw]; exact hf.size, by rw [hw]; exact hf.keep, fun b hb => h2 b (hf.z0 b hb), ?_, ?_, by omega, ?_⟩
  · intro b hb
    rcases h3 b hb with h | h
    · exact hf.z1 b h
    · rcases hf.own b h with h | h
      · exact .inr (.inl h)
      · exact .inr (.inr h)
  · rintro b ⟨i, o, c, hi, hb⟩
    have hlt := hi.lt
    rw [h1 i hlt] at hb
    exact hf.own b ⟨_, o, c, (h4 i hi).1, hb⟩
  · intro i hi hl
    obtain ⟨h5, o, ho, ho'⟩ := h4 i hl
    rw [hid i hi] at h5 ho'
    obtain ⟨h6, x, x', hx, hx', hk⟩ := hf.old i hi h5
    refine ⟨by rw [h1 i hl.lt, hid i hi]; exact h6, x, o, hx, ho, ?_⟩
    rw [ho'] at hx'
    simp only [Option.some.injEq] at hx'
    rw [← hx'] at hk
    exact Ob.like_renO hk

/-- the state of an activation: N slots, n0 objects handed in -/
def Okay (N : Nat) (os : List Ob) (γ0 : Cx) (σ : St) (a : Act) (w : World) : Prop :=
  a.defers = [] ∧ a.tmps.size = N ∧ ∃ γ, γ.w = w ∧ γ.tmps = a.tmps ∧ Sim σ γ ∧ Fr os γ0 σ.objs γ

/-- THE WEAKEST PRECONDITION ON ABSTRACT STATES -/
def W (P : Program) (N n0 : Nat) (c : Code) (Q : Exit → St → Prop) (σ : St) : Prop :=
  ∀ (os : List Ob) (γ0 : Cx) (a : Act) (w : World), os.length = n0 → Okay N os γ0 σ a w → c.wp P (fun e a' w' => ∃ σ', Q e σ' ∧ Okay N os γ0 σ' a' w') a w

/-- a call, and what is asked of the state behind it -/
def callK (P : Program) (g : FuncId) (args : List AV) (dst : Option Tmp) (K : St → Prop) (σ : St) : Prop := callW P g args σ fun v σ' => K (σ'.put dst v)

/-- an operation, calls of Go functions too -/
def opG (P : Program) (o : Oper) (σ : St) (K : St → Prop) : Prop :=
  match o.op with
  | .call { callee := .value f, args, .. } =>
    match ev σ f with
    | .fn g caps => callK P g (args.toList.map (ev σ) ++ caps) o.dst K σ
    | _ => False
  | _ => opW P o σ K

/-- an operation behind a guard -/
def guardK (P : Program) (o : Oper) (K : St → Prop) (b want : Bool) (σ : St) : Prop := (b = want → opG P o σ K) ∧ (b ≠ want → K (σ.put o.dst (.lit (.tuple #[]))))

/-- the operations of a region, in the text's order -/
def opsL (P : Program) (ops : Array Oper) : List Oper → (St → Prop) → St → Prop
  | [], K, σ => K σ
  | o :: r, K, σ =>
    match o.guard with
    | none => opG P o σ (opsL P ops r K)
    | some (j, want) =>
      match (ops[j]?).bind (·.dst) with
      | none => False
      | some d =>
        match σ.env d with
        | .lit (.bool b) => guardK P o (opsL P ops r K) b want σ
        | .lit (.tuple vs) => vs = #[] ∧ opsL P ops r K (σ.put o.dst (.lit (.tuple #[])))
        | _ => False

theorem put_size (a : Act) (d : Option Tmp) (v : Value) : (a.put d v).tmps.size = a.tmps.size := by cases d <;> simp [Act.put]
theorem put_defers (a : Act) (d : Option Tmp) (v : Value) : (a.put d v).defers = a.defers := by cases d <;> rfl

theorem opG_sound {N : Nat} {os : List Ob} {γ0 : Cx} {o : Oper} {σ : St} {K : St → Prop} (h : opG P o σ K) {a : Act} {w : World} (hok : Okay N os γ0 σ a w) (hd : ∀ d, o.dst = some d → d < N)
    {Q : Exit → Act → World → Prop} {next : Act → World → Prop} (hn : ∀ σ' a' w', K σ' → Okay N os γ0 σ' a' w' → next a' w') : o.wp P a w next Q := by
  obtain ⟨hdf, hsz, γ, rfl, ha, hs, hf⟩ := hok
  have hd' : ∀ d, o.dst = some d → d < a.tmps.size := fun d h => by rw [hsz]; exact hd d h
  have hgen : opW P o σ K → o.wp P a γ.w next Q := by
    intro h
    obtain ⟨n, x, w', σ', γ', hr, hn', hK, hs', hf', hw', ht'⟩ := opW_sound h hs ha hd'
    unfold Oper.wp
    rw [hr]
    have hok' : Okay N os γ0 σ' (a.put o.dst x) w' := ⟨by rw [put_defers]; exact hdf, by rw [put_size]; exact hsz, γ', hw', ht', hs', hf.trans hf'⟩
    rcases hn' with rfl | ⟨rfl, rfl⟩
    · exact hn _ _ _ hK hok'
    · exact hn _ _ _ hK hok'
  unfold opG at h
  split at h
  · rename_i f args ats hop
    split at h
    · rename_i g caps he
      have hfr := ev_rel hs ha f
      rw [he] at hfr
      obtain ⟨cvs, hcv, hcs, hcr⟩ := hfr.fn_inv
      have hargs : ∀ (j : Nat) d, (args.toList.map (ev σ) ++ caps)[j]? = some d → RelV σ.objs γ.w γ.Z γ.blk d (((args.map a.eval) ++ cvs).getD j Go.undef) := by
        intro j d hj
        simp only [Array.getD_eq_getD_getElem?]
        rcases Nat.lt_or_ge j args.size with hlt | hge
        · rw [List.getElem?_append_left (by simpa using hlt)] at hj
          rw [Array.getElem?_append_left (by simpa using hlt)]
          simp only [List.getElem?_map, Array.getElem?_toList, Array.getElem?_map] at hj ⊢
          cases hx : args[j]? with
          | none => simp [hx] at hj
          | some y => simp [hx] at hj ⊢; subst hj; exact ev_rel hs ha y
        · rw [List.getElem?_append_right (by simpa using hge)] at hj
          rw [Array.getElem?_append_right (by simpa using hge)]
          simp only [List.length_map, Array.length_toList, Array.size_map] at hj ⊢
          have := hcr _ d hj
          simpa [Array.getD_eq_getD_getElem?] using this
      unfold callK at h
      have hcall := call_sound hs (argv := (args.map a.eval) ++ cvs) (by simp [hcs]) hargs h
      obtain ⟨sel, snap, cargs, cobjs, res, cobjs', ⟨⟨fn, hfn, hname, hbody⟩, _⟩, _⟩ := h
      unfold Oper.wp
      have hr : (execOp a.eval o).run P γ.w = .ok (.enter g ((args.map a.eval) ++ cvs)) γ.w := by
        have hn1 : ¬ fn.name = "runtime.NumGoroutine" := by simpa using hname
        have hn2 : ¬ fn.body = none := by intro e; rw [e] at hbody; simp at hbody
        simp [execOp, hop, resolve, hcv, Deferred.ofValue, invoke, callFunc, hfn, hn1, hn2]
      rw [hr]
      show Calls P g _ _ _
      refine hcall.mono ?_
      rintro e w' ⟨cv, v, σ', γ', rfl, rfl, ht', hs', hf', hv, hK, henv⟩
      refine hn _ _ _ hK ⟨by rw [put_defers]; exact hdf, by rw [put_size]; exact hsz, { γ' with tmps := (a.put o.dst cv).tmps }, rfl, rfl, put_sim hs' (by rw [ht', ha]) hd' hv, ?_⟩
      rw [objs_put]
      exact (hf.trans hf').put _
    · exact h.elim
  · exact hgen h

theorem opsL_sound {N : Nat} {os : List Ob} {γ0 : Cx} {ops : Array Oper} (hd : ∀ o ∈ ops.toList, ∀ d, o.dst = some d → d < N) {K : St → Prop} {Q : Exit → Act → World → Prop}
    (hQ : ∀ σ' a' w', K σ' → Okay N os γ0 σ' a' w' → Q .normal a' w') : ∀ (l : List Oper) (i : Nat) (σ : St) (a : Act) (w : World), ops.toList.drop i = l → opsL P ops l K σ → Okay N os γ0 σ a w →
      wpOps P ops Q (List.range' i l.length) a w
  | [], i, σ, a, w, _, h, hok => by simpa [wpOps] using hQ _ _ _ h hok
  | o :: r, i, σ, a, w, hl, h, hok => by
    have hi : ops[i]? = some o := by
      have : (ops.toList.drop i)[0]? = some o := by rw [hl]; rfl
      simpa using this
    have hr : ops.toList.drop (i + 1) = r := by
      have := congrArg List.tail hl
      simpa [List.tail_drop] using this
    have hmem : o ∈ ops.toList := List.mem_of_getElem? (by simpa using hi)
    rw [List.length_cons, List.range'_succ, wpOps_cons]
    unfold wpOp
    simp only [hi]
    unfold opsL at h
    cases hg : o.guard with
    | none =>
      simp only [hg] at h
      have hw : Region.wanted o (yielded ops a.tmps) = true := by simp [Region.wanted, hg]
      rw [if_pos hw]
      left
      exact opG_sound h hok (hd o hmem) (fun σ' a' w' hK hok' => opsL_sound hd hQ r (i + 1) σ' a' w' hr hK hok')
    | some jw =>
      obtain ⟨j, want⟩ := jw
      simp only [hg] at h
      cases hdj : (ops[j]?).bind (·.dst) with
      | none => simp [hdj] at h
      | some d =>
        simp only [hdj] at h
        split at h
        · rename_i b he
          obtain ⟨hdf, hsz, γ, rfl, ha, hs, hf⟩ := hok
          have hslot := hs.slots d
          rw [he, ha] at hslot
          have hv := hslot.lit_inv
          have hy : yielded ops a.tmps j = some b := by
            unfold yielded
            rw [hdj]
            have : a.tmps[d]? = some (.bool b) := by
              rw [Array.getD_eq_getD_getElem?] at hv
              cases hx : a.tmps[d]? with
              | none => rw [hx] at hv; simp [Go.undef] at hv
              | some y => rw [hx] at hv; simp at hv; rw [hv]
            simp [this]
          by_cases hbw : b = want
          · have hw : Region.wanted o (yielded ops a.tmps) = true := by simp [Region.wanted, hg, hy, hbw]
            rw [if_pos hw]
            left
            exact opG_sound (h.1 hbw) ⟨hdf, hsz, γ, rfl, ha, hs, hf⟩ (hd o hmem) (fun σ' a' w' hK hok' => opsL_sound hd hQ r (i + 1) σ' a' w' hr hK hok')
          · have hw : Region.wanted o (yielded ops a.tmps) = false := by simp [Region.wanted, hg, hy, hbw]
            rw [if_neg (by rw [hw]; simp)]
            refine opsL_sound hd hQ r (i + 1) _ _ _ hr (h.2 hbw) ⟨by rw [put_defers]; exact hdf, by rw [put_size]; exact hsz, { γ with tmps := (a.put o.dst Go.undef).tmps }, rfl, rfl, put_sim hs ha (fun d h => by rw [hsz]; exact hd o hmem d h) (.lit _), ?_⟩
            rw [objs_put]; exact hf.put _
        · rename_i vs he
          obtain ⟨hdf, hsz, γ, rfl, ha, hs, hf⟩ := hok
          have hslot := hs.slots d
          rw [he, ha] at hslot
          have hv := hslot.lit_inv
          have hy : yielded ops a.tmps j = none := by
            unfold yielded
            rw [hdj]
            rw [Array.getD_eq_getD_getElem?] at hv
            cases hx : a.tmps[d]? with
            | none => simp [hx]
            | some y => rw [hx] at hv; simp at hv; subst hv; simp [hx]
          have hw : Region.wanted o (yielded ops a.tmps) = false := by simp [Region.wanted, hg, hy]
          rw [if_neg (by rw [hw]; simp)]
          refine opsL_sound hd hQ r (i + 1) _ _ _ hr h.2 ⟨by rw [put_defers]; exact hdf, by rw [put_size]; exact hsz, { γ with tmps := (a.put o.dst Go.undef).tmps }, rfl, rfl, put_sim hs ha (fun d h => by rw [hsz]; exact hd o hmem d h) (.lit _), ?_⟩
          rw [objs_put]; exact hf.put _
        · exact h.elim

end Go.Am
