import Derived.Test.YtjbfepcaobnbpaaGreatDoorX05
import Derived.Laws.StructEq
set_option linter.unusedVariables false
set_option linter.unusedSimpArgs false
set_option linter.unnecessarySimpa false
set_option linter.unusedSectionVars false
section
namespace Go.Am
variable {P : Program}
variable {N n0 : Nat} {Q : Exit → St → Prop} {σ : St}

def retR (P : Program) (n0 : Nat) (rs : List ResultVar) (Post : AV → List Ob → Prop) : Exit → St → Prop
  | .normal, s => resW s P rs fun vs => ∃ res objs', Post res objs' ∧ RetOK n0 s (retV vs) res objs'
  | .ret, s => resW s P rs fun vs => ∃ res objs', Post res objs' ∧ RetOK n0 s (retV vs) res objs'
  | _, _ => False

/-- A FUNCTION'S CONTRACT, from its body -/
theorem HoldsR.of_body {f : FuncId} {fn : Func} {c : Code} {args : List AV} {objs : List Ob} {Post : AV → List Ob → Prop} (hf : P.funcs[f]? = some fn) (hb : fn.body = some c) (hname : (fn.name == "runtime.NumGoroutine") = false)
    (hN : args.length ≤ fn.ntmps) (h : W P fn.ntmps objs.length c (retR P objs.length fn.results.toList Post) ⟨fun k => args.getD k .undef, objs⟩) : HoldsR P f args objs Post := by
  refine ⟨⟨fn, hf, hname, by rw [hb]; rfl⟩, ?_⟩
  intro γ hsz hs
  refine calls_of_wp hf hb ?_
  let tm := γ.tmps ++ Array.replicate (fn.ntmps - γ.tmps.size) Go.undef
  have hok : Okay fn.ntmps objs { γ with D := [] } ⟨fun k => args.getD k .undef, objs⟩ { tmps := tm, defers := [] } γ.w := by
    refine ⟨rfl, by simp [tm]; omega, { γ with tmps := tm }, rfl, rfl, ⟨fun k => ?_, hs.obs, hs.inj, hs.nz, hs.zlt, hs.gl⟩, ((Fr.refl _ _).put _).setD⟩
    rcases Nat.lt_or_ge k args.length with hk | hk
    · have := hs.slots k
      have e : tm.getD k Go.undef = γ.tmps.getD k Go.undef := by
        simp only [tm, Array.getD_eq_getD_getElem?]
        rw [Array.getElem?_append_left (by omega)]
      show RelV _ _ _ _ _ (tm.getD k Go.undef)
      rw [e]; exact this
    · have e : args.getD k AV.undef = .undef := by simp [hk]
      show RelV _ _ _ _ (args.getD k .undef) _
      rw [e]; exact .undef _
  refine wp_mono (h objs { γ with D := [] } _ γ.w rfl hok) ?_
  rintro e a' w' ⟨σ', h1, hdf, _, γ', rfl, ha, hs', hf'⟩
  have hf' := hf'.unD
  have fin : ∀ (K : List AV → Prop), resW σ' P fn.results.toList K → (∀ vs, K vs → ∃ res objs', Post res objs' ∧ RetOK objs.length σ' (retV vs) res objs') →
      a'.defers = [] ∧ ∃ v, (results fn a'.tmps).run P γ'.w = .ok v γ'.w ∧ ∃ res objs' cv γ'', Post res objs' ∧ Ending.returned v = .returned cv ∧ γ''.w = γ'.w ∧ γ''.tmps = #[cv] ∧ Sim ⟨fun k => [res].getD k .undef, objs'⟩ γ'' ∧ Fr objs γ objs' γ'' := by
    intro K hK hKR
    obtain ⟨vs, cvs, k1, k2, k3, k4, k5⟩ := resW_sound hs' _ _ hK
    obtain ⟨res, objs', hpost, sel, snap, r1, r2, r3, r4, r5, r6, r7⟩ := hKR vs k1
    refine ⟨hdf, ?_⟩
    have hrun : ∃ v, (results fn a'.tmps).run P γ'.w = .ok v γ'.w ∧ RelV σ'.objs γ'.w γ'.Z γ'.blk (retV vs) v := by
      have hm : (fn.results.mapM fun (r : ResultVar) => match r with | .tmp t => (pure (a'.tmps.getD t Go.undef) : Sem Value) | .cell a t => do loadVar t (← asAddr (a'.tmps.getD a Go.undef))).run P γ'.w = .ok cvs.toArray γ'.w := by
        rw [Array.mapM_eq_mapM_toList, Sem.run_map, ← ha]
        exact congrArg (fun (r : Result (List Value)) => r.andThen fun a w' => Result.ok a.toArray w') k2
      have hr : (results fn a'.tmps).run P γ'.w = .ok (if h : cvs.toArray.size = 1 then cvs.toArray[0] else .tuple cvs.toArray) γ'.w := by
        unfold results
        rw [Sem.run_bind]
        exact congrArg (fun r => Result.andThen r fun (a : Array Value) w' => (pure (if h : a.size = 1 then a[0] else Value.tuple a) : Sem Value).run P w') hm
      rw [hr]
      match vs, cvs, k3, k5 with
      | [], [], _, k5 => exact ⟨_, rfl, .tup _ _ rfl (fun j x hj => by simp at hj)⟩
      | [v], [cv], _, k5 => exact ⟨cv, by simp, by simpa [retV] using k5 0 v rfl⟩
      | v :: v' :: vs, cv :: cv' :: cvs, k3, k5 =>
        refine ⟨.tuple (cv :: cv' :: cvs).toArray, by simp, .tup _ _ (by simpa using k3) (fun j x hj => ?_)⟩
        have := k5 j x hj
        simpa [List.getD_eq_getElem?_getD, Array.getD_eq_getD_getElem?] using this
    obtain ⟨v, hv1, hv2⟩ := hrun
    obtain ⟨γ'', e1, e2, e3, e4⟩ := hs'.select sel snap objs' r1 r2 r3 r4 (fun k => [res].getD k .undef) #[v] (fun k => by
      cases k with
      | zero => exact .inr ⟨_, r7, by simpa using hv2⟩
      | succ k => left; simp)
    exact ⟨v, hv1, res, objs', v, γ'', hpost, rfl, e1, e2, e3, hf'.select r5 r2 r6 e1 e4⟩
  cases e with
  | normal => exact fin _ h1 (fun _ h => h)
  | ret => exact fin _ h1 (fun _ h => h)
  | exit id => exact h1.elim
  | goto l => exact h1.elim
  | panic c => exact h1.elim
  | outgrown => exact h1.elim

theorem HoldsR.of_body' {f : FuncId} {fn : Func} {c : Code} {args : List AV} {objs : List Ob} {Post : AV → List Ob → Prop} (N k : Nat) (rs : List ResultVar) (hf : P.funcs[f]? = some fn) (hb : fn.body = some c) (hname : (fn.name == "runtime.NumGoroutine") = false)
    (hN : fn.ntmps = N) (hrs : fn.results.toList = rs) (hk : objs.length = k) (hl : args.length ≤ N) (h : W P N k c (retR P k rs Post) ⟨fun k => args.getD k .undef, objs⟩) : HoldsR P f args objs Post := by
  subst hN; subst hrs; subst hk
  exact HoldsR.of_body hf hb hname hl h


/-- a call of which only a property of the result is known, and what is asked behind it -/
def callKR (P : Program) (g : FuncId) (args : List AV) (dst : Option Tmp) (K : St → Prop) (σ : St) : Prop := callWR P g args σ fun v σ' => K (σ'.put dst v)

/-- the call of a known function, by such a contract -/
def callO (P : Program) (o : Oper) (K : St → Prop) (σ : St) : Prop :=
  o.guard = none ∧
  match o.op with
  | .call { callee := .value f, args, .. } =>
    match ev σ f with
    | .fn g caps => callKR P g (args.toList.map (ev σ) ++ caps) o.dst K σ
    | _ => False
  | _ => False

theorem callO_sound {os : List Ob} {γ0 : Cx} {o : Oper} {K : St → Prop} (h : callO P o K σ) {a : Act} {w : World} (hok : Okay N os γ0 σ a w) (hd : ∀ d, o.dst = some d → d < N)
    {Q : Exit → Act → World → Prop} {next : Act → World → Prop} (hn : ∀ σ' a' w', K σ' → Okay N os γ0 σ' a' w' → next a' w') : o.wp P a w next Q := by
  obtain ⟨hdf, hsz, γ, rfl, ha, hs, hf⟩ := hok
  have hd' : ∀ d, o.dst = some d → d < a.tmps.size := fun d h => by rw [hsz]; exact hd d h
  obtain ⟨_, h⟩ := h
  split at h
  · rename_i f args ats hop
    split at h
    · rename_i g caps he
      have hfr := ev_rel hs ha f
      rw [he] at hfr
      obtain ⟨cvs, hcv, hcs, hcr⟩ := hfr.fn_inv
      have hargs : ∀ (j : Nat) d, (args.toList.map (ev σ) ++ caps)[j]? = some d → RelV σ.objs γ.w γ.Z γ.blk d (((args.map a.eval) ++ cvs).getD j Go.undef) := by
        intro j d hj
        simp only [Array.getD_eq_getD_getElem?]
        rcases Nat.lt_or_ge j args.size with hlt | hge
        · rw [List.getElem?_append_left (by simpa using hlt)] at hj
          rw [Array.getElem?_append_left (by simpa using hlt)]
          simp only [List.getElem?_map, Array.getElem?_toList, Array.getElem?_map] at hj ⊢
          cases hx : args[j]? with
          | none => simp [hx] at hj
          | some y => simp [hx] at hj ⊢; subst hj; exact ev_rel hs ha y
        · rw [List.getElem?_append_right (by simpa using hge)] at hj
          rw [Array.getElem?_append_right (by simpa using hge)]
          simp only [List.length_map, Array.length_toList, Array.size_map] at hj ⊢
          have := hcr _ d hj
          simpa [Array.getD_eq_getD_getElem?] using this
      unfold callKR at h
      have hcall := call_soundR hs (argv := (args.map a.eval) ++ cvs) (by simp [hcs]) hargs h
      obtain ⟨sel, snap, cargs, cobjs, Post, ⟨⟨fn, hfn, hname, hbody⟩, _⟩, _⟩ := h
      unfold Oper.wp
      have hr : (execOp a.eval o).run P γ.w = .ok (.enter g ((args.map a.eval) ++ cvs)) γ.w := by
        have hn1 : ¬ fn.name = "runtime.NumGoroutine" := by simpa using hname
        have hn2 : ¬ fn.body = none := by intro e; rw [e] at hbody; simp at hbody
        simp [execOp, hop, resolve, hcv, Deferred.ofValue, invoke, callFunc, hfn, hn1, hn2]
      rw [hr]
      show Calls P g _ _ _
      refine hcall.mono ?_
      rintro e w' ⟨cv, v, σ', γ', rfl, rfl, ht', hs', hf', hv, hK, henv⟩
      refine hn _ _ _ hK ⟨by rw [put_defers]; exact hdf, by rw [put_size]; exact hsz, { γ' with tmps := (a.put o.dst cv).tmps }, rfl, rfl, put_sim hs' (by rw [ht', ha]) hd' hv, ?_⟩
      rw [objs_put]
      exact (hf.trans hf').put _
    · exact h.elim
  · exact h.elim

/-- a region with one such call, behind its first n operations -/
theorem W_region_c (n : Nat) {id : Nat} {ops : Array Oper} {y : Code} (hd : dstOK N ops = true) (o : Oper) (ho : ops[n]? = some o)
    (h : ∀ K : St → Prop, (∀ s, W P N n0 y Q s → K s) → opsL P ops (ops.toList.take n) (callO P o (opsL P ops (ops.toList.drop (n + 1)) K)) σ) : W P N n0 (.seq (.region id ops false) y) Q σ := by
  refine W_seq ?_
  intro os γ0 a w hn hok
  refine wp_region ?_
  have hn' : n < ops.size := (Array.getElem?_eq_some_iff.1 ho).1
  have e : List.range ops.size = List.range' 0 (ops.toList.take n).length ++ (n :: List.range' (n + 1) (ops.toList.drop (n + 1)).length) := by
    rw [List.range_eq_range', ← List.range'_succ]
    have := List.range'_append (s := 0) (m := n) (n := (ops.toList.drop (n + 1)).length + 1) (step := 1)
    simp only [Nat.zero_add, Nat.one_mul] at this
    rw [show (ops.toList.take n).length = n by simp; omega, this]
    congr 1
    simp; omega
  rw [e]
  refine wpOps_app _ a w ?_
  refine opsL_soundP (dstOK_spec hd) (K := callO P o (opsL P ops (ops.toList.drop (n + 1)) (W P N n0 y Q))) (fun σ' a' w' hk hok' => ?_) (ops.toList.take n) 0 σ a w (fun k hk => ?_) (h _ (fun _ h => h)) hok
  · show wpOps P ops _ _ a' w'
    rw [wpOps_cons]
    unfold wpOp
    simp only [ho]
    have hw : Region.wanted o (yielded ops a'.tmps) = true := by simp [Region.wanted, hk.1]
    rw [if_pos hw]
    left
    refine callO_sound hk hok' (dstOK_spec hd o (List.mem_of_getElem? (by simpa using ho))) (fun σ2 a2 w2 hk2 hok2 => ?_)
    refine opsL_soundP (dstOK_spec hd) (K := W P N n0 y Q) (fun σ3 a3 w3 hk3 hok3 => ⟨σ3, hk3, hok3⟩) (ops.toList.drop (n + 1)) (n + 1) σ2 a2 w2 (fun k hk => ?_) hk2 hok2
    rw [List.getElem?_drop]
    simp
  · simp only [List.length_take, Array.length_toList] at hk
    rw [List.getElem?_take_of_lt (by omega)]
    simp

/-- such a call that is lent all objects -/
theorem callKR_sel (sel : List Nat) {f : FuncId} {args cargs : List AV} {cobjs : List Ob} {dst : Option Tmp} {K : St → Prop} {Post : AV → List Ob → Prop} (h : HoldsR P f cargs cobjs Post) (hnd : sel.Nodup)
    (ho : SelX (rho σ.objs.length sel) σ.objs sel cobjs) (ha : ArgsR (ArgR σ (· ∈ sel) (rho σ.objs.length sel) false) cargs args)
    (hK : ∀ res cobjs', Post res cobjs' → K (({ σ with objs := mergeO σ.objs sel (cobjs'.map (renO (rho σ.objs.length sel))) } : St).put dst (ren (rho σ.objs.length sel) res))) : callKR P f args dst K σ := by
  obtain ⟨h1, h2⟩ := ho.spec
  obtain ⟨h3, h4⟩ := ha.spec
  exact ⟨sel, false, cargs, cobjs, Post, h, ⟨hnd, h1, h2, h3, h4⟩, fun res cobjs' hp => ⟨by simp, hK res cobjs' hp⟩⟩

end Go.Am
end
section
namespace Go.Am

/-! ### the rules of the walks, in three bundles (printed by a program of this work) -/

theorem LKc : type_of% @upd_app ∧ type_of% @slots_cons ∧ type_of% @clr_app ∧ type_of% @List.contains_cons.{0} ∧ type_of% @List.contains_nil.{0} ∧ type_of% @Bool.or_self ∧ type_of% @Bool.or_false ∧ type_of% @Bool.false_or ∧ type_of% @Bool.or_true ∧ type_of% @Bool.true_or ∧ type_of% @Bool.false_eq_true ∧ type_of% @if_false.{1} ∧ type_of% @if_true.{1} ∧ type_of% @List.getD_cons_zero.{0} ∧ type_of% @List.getD_cons_succ.{0} ∧ type_of% @List.getD_nil.{0} :=
  ⟨@upd_app, @slots_cons, @clr_app, @List.contains_cons.{0}, @List.contains_nil.{0}, @Bool.or_self, @Bool.or_false, @Bool.false_or, @Bool.or_true, @Bool.true_or, @Bool.false_eq_true, @if_false.{1}, @if_true.{1}, @List.getD_cons_zero.{0}, @List.getD_cons_succ.{0}, @List.getD_nil.{0}⟩

theorem Bc : type_of% @upd_app ∧ type_of% @slots_cons ∧ type_of% @clr_app ∧ type_of% @List.contains_cons.{0} ∧ type_of% @List.contains_nil.{0} ∧ type_of% @Bool.or_self ∧ type_of% @Bool.or_false ∧ type_of% @Bool.false_or ∧ type_of% @Bool.or_true ∧ type_of% @Bool.true_or ∧ type_of% @Bool.false_eq_true ∧ type_of% @if_false.{1} ∧ type_of% @if_true.{1} ∧ type_of% @List.getD_cons_zero.{0} ∧ type_of% @List.getD_cons_succ.{0} ∧ type_of% @List.getD_nil.{0} ∧ type_of% @List.size_toArray.{0} ∧ type_of% @Array.size_empty.{0} ∧ type_of% @i64min ∧ type_of% @i64max ∧ type_of% @eq_self.{1} ∧ type_of% @opsL_nil ∧ type_of% @opsL_cons ∧ type_of% @opG_nilCheck ∧ type_of% @opG_fieldAddr ∧ type_of% @opG_indexAddr ∧ type_of% @opG_call ∧ type_of% @opG_move ∧ type_of% @opG_assign ∧ type_of% @opG_pick ∧ type_of% @opG_alloc ∧ type_of% @opG_box ∧ type_of% @opG_build ∧ type_of% @opG_buildSlice ∧ type_of% @opG_load ∧ type_of% @opG_store ∧ type_of% @opG_binOp ∧ type_of% @opG_unOp ∧ type_of% @opG_makeFunc ∧ type_of% @opG_makeSlice ∧ type_of% @opG_slice ∧ type_of% @opG_field ∧ type_of% @opG_extract ∧ type_of% @opG_b_len ∧ type_of% @opG_b_append ∧ type_of% @opG_b_min ∧ type_of% @opG_b_max ∧ type_of% @opG_b_copy ∧ type_of% @opG_b_clear ∧ type_of% @opG_convert ∧ type_of% @andK_i64 ∧ type_of% @opGm_call ∧ type_of% @opGm_no ∧ type_of% @liveO_var ∧ type_of% @liveO_arr ∧ type_of% @true_and ∧ type_of% @and_true ∧ type_of% @and_self ∧ type_of% @List.map_cons.{0, 0} ∧ type_of% @List.map_nil.{0, 0} ∧ type_of% @List.cons_append.{0} ∧ type_of% @List.nil_append.{0} ∧ type_of% @List.append_nil.{0} ∧ type_of% @ite_true.{1} ∧ type_of% @ite_false.{1} ∧ type_of% @Bool.true_eq_false ∧ type_of% @ne_eq.{1} ∧ type_of% @not_true_eq_false ∧ type_of% @not_false_eq_true ∧ type_of% @false_implies ∧ type_of% @true_implies ∧ type_of% @implies_true.{1} ∧ type_of% @Option.bind_some.{0, 0} ∧ type_of% @Option.bind_none.{0, 0} ∧ type_of% @List.getElem?_cons_zero.{0} ∧ type_of% @List.getElem?_cons_succ.{0} ∧ type_of% @List.getElem?_toArray.{0} ∧ type_of% @List.length_cons.{0} ∧ type_of% @List.length_nil.{0} ∧ type_of% @Nat.zero_add ∧ type_of% @Nat.add_zero ∧ type_of% @decide_true ∧ type_of% @decide_false ∧ type_of% @List.all_cons.{0} ∧ type_of% @List.all_nil.{0} ∧ type_of% @Bool.and_true ∧ type_of% @Bool.true_and ∧ type_of% @Int.toNat_zero ∧ type_of% @Bool.not_true ∧ type_of% @Bool.not_false ∧ type_of% @cond_true.{1} ∧ type_of% @cond_false.{1} ∧ type_of% @guardK_tt ∧ type_of% @guardK_tf ∧ type_of% @guardK_ft ∧ type_of% @guardK_ff ∧ type_of% @guardM_tt ∧ type_of% @guardM_tf ∧ type_of% @guardM_ft ∧ type_of% @guardM_ff ∧ type_of% @planW_take ∧ type_of% @planW_nil ∧ type_of% @Int.toNat_natCast ∧ type_of% @range1 ∧ type_of% @range2 ∧ type_of% @range3 ∧ type_of% @ints_take ∧ type_of% @bools_take ∧ type_of% @intss_take ∧ type_of% @Nat.zero_mul ∧ type_of% @Nat.mul_one ∧ type_of% @Nat.one_mul ∧ type_of% @renO_var ∧ type_of% @renO_gone' ∧ type_of% @ints_ren ∧ type_of% @bools_ren ∧ type_of% @intss_ren ∧ type_of% @Option.map_some.{0, 0} ∧ type_of% @List.drop_zero.{0} ∧ type_of% @List.drop_succ_cons.{0} ∧ type_of% @List.take_succ_cons.{0} ∧ type_of% @List.take_zero.{0} ∧ type_of% @List.set_cons_zero.{0} ∧ type_of% @List.set_cons_succ.{0} ∧ type_of% @beq_self_eq_true.{0} ∧ type_of% @List.flatMap_cons.{0, 0} ∧ type_of% @List.flatMap_nil.{0, 0} ∧ type_of% @List.getElem?_nil.{0} ∧ type_of% @List.length_append.{0} ∧ type_of% @List.length_set.{0} ∧ type_of% @List.length_replicate.{0} ∧ type_of% @ints_length ∧ type_of% @bools_length ∧ type_of% @intss_length ∧ type_of% @ints_getD ∧ type_of% @bools_getD ∧ type_of% @intss_getD ∧ type_of% @ints_get ∧ type_of% @bools_get ∧ type_of% @intss_get ∧ type_of% @ints_set ∧ type_of% @bools_set ∧ type_of% @ints_app ∧ type_of% @ints_app1 ∧ type_of% @intss_app1 ∧ type_of% @bools_app1 ∧ type_of% @ints_rep ∧ type_of% @bools_rep ∧ type_of% @ints_scal ∧ type_of% @bools_scal ∧ type_of% @intss_scal :=
  ⟨@upd_app, @slots_cons, @clr_app, @List.contains_cons.{0}, @List.contains_nil.{0}, @Bool.or_self, @Bool.or_false, @Bool.false_or, @Bool.or_true, @Bool.true_or, @Bool.false_eq_true, @if_false.{1}, @if_true.{1}, @List.getD_cons_zero.{0}, @List.getD_cons_succ.{0}, @List.getD_nil.{0}, @List.size_toArray.{0}, @Array.size_empty.{0}, @i64min, @i64max, @eq_self.{1}, @opsL_nil, @opsL_cons, @opG_nilCheck, @opG_fieldAddr, @opG_indexAddr, @opG_call, @opG_move, @opG_assign, @opG_pick, @opG_alloc, @opG_box, @opG_build, @opG_buildSlice, @opG_load, @opG_store, @opG_binOp, @opG_unOp, @opG_makeFunc, @opG_makeSlice, @opG_slice, @opG_field, @opG_extract, @opG_b_len, @opG_b_append, @opG_b_min, @opG_b_max, @opG_b_copy, @opG_b_clear, @opG_convert, @andK_i64, @opGm_call, @opGm_no, @liveO_var, @liveO_arr, @true_and, @and_true, @and_self, @List.map_cons.{0, 0}, @List.map_nil.{0, 0}, @List.cons_append.{0}, @List.nil_append.{0}, @List.append_nil.{0}, @ite_true.{1}, @ite_false.{1}, @Bool.true_eq_false, @ne_eq.{1}, @not_true_eq_false, @not_false_eq_true, @false_implies, @true_implies, @implies_true.{1}, @Option.bind_some.{0, 0}, @Option.bind_none.{0, 0}, @List.getElem?_cons_zero.{0}, @List.getElem?_cons_succ.{0}, @List.getElem?_toArray.{0}, @List.length_cons.{0}, @List.length_nil.{0}, @Nat.zero_add, @Nat.add_zero, @decide_true, @decide_false, @List.all_cons.{0}, @List.all_nil.{0}, @Bool.and_true, @Bool.true_and, @Int.toNat_zero, @Bool.not_true, @Bool.not_false, @cond_true.{1}, @cond_false.{1}, @guardK_tt, @guardK_tf, @guardK_ft, @guardK_ff, @guardM_tt, @guardM_tf, @guardM_ft, @guardM_ff, @planW_take, @planW_nil, @Int.toNat_natCast, @range1, @range2, @range3, @ints_take, @bools_take, @intss_take, @Nat.zero_mul, @Nat.mul_one, @Nat.one_mul, @renO_var, @renO_gone', @ints_ren, @bools_ren, @intss_ren, @Option.map_some.{0, 0}, @List.drop_zero.{0}, @List.drop_succ_cons.{0}, @List.take_succ_cons.{0}, @List.take_zero.{0}, @List.set_cons_zero.{0}, @List.set_cons_succ.{0}, @beq_self_eq_true.{0}, @List.flatMap_cons.{0, 0}, @List.flatMap_nil.{0, 0}, @List.getElem?_nil.{0}, @List.length_append.{0}, @List.length_set.{0}, @List.length_replicate.{0}, @ints_length, @bools_length, @intss_length, @ints_getD, @bools_getD, @intss_getD, @ints_get, @bools_get, @intss_get, @ints_set, @bools_set, @ints_app, @ints_app1, @intss_app1, @bools_app1, @ints_rep, @bools_rep, @ints_scal, @bools_scal, @intss_scal⟩

theorem DEc : type_of% @eq_self.{1} ∧ type_of% @decide_eq_true_eq ∧ type_of% @decide_eq_false_iff_not ∧ type_of% @Bool.not_eq_true' ∧ type_of% @Bool.not_eq_false' ∧ type_of% @beq_iff_eq.{0} ∧ type_of% @beq_eq_false_iff_ne.{0} ∧ type_of% @bne_iff_ne.{0} ∧ type_of% @bne_eq_false_iff_eq.{0} ∧ type_of% @ne_eq.{1} ∧ type_of% @Decidable.not_not ∧ type_of% @Int.not_lt ∧ type_of% @Int.not_le ∧ type_of% @not_true_eq_false ∧ type_of% @not_false_eq_true ∧ type_of% @Bool.or_eq_true ∧ type_of% @Bool.and_eq_true ∧ type_of% @Bool.or_eq_false_iff ∧ type_of% @Bool.and_eq_false_iff ∧ type_of% @gt_iff_lt.{0} ∧ type_of% @ge_iff_le.{0} ∧ type_of% @Int.ofNat_lt ∧ type_of% @Int.ofNat_le ∧ type_of% @Int.ofNat_inj ∧ type_of% @Nat.not_lt ∧ type_of% @Nat.not_le ∧ type_of% @ints_length ∧ type_of% @bools_length ∧ type_of% @intss_length ∧ type_of% @cond_true.{1} ∧ type_of% @cond_false.{1} :=
  ⟨@eq_self.{1}, @decide_eq_true_eq, @decide_eq_false_iff_not, @Bool.not_eq_true', @Bool.not_eq_false', @beq_iff_eq.{0}, @beq_eq_false_iff_ne.{0}, @bne_iff_ne.{0}, @bne_eq_false_iff_eq.{0}, @ne_eq.{1}, @Decidable.not_not, @Int.not_lt, @Int.not_le, @not_true_eq_false, @not_false_eq_true, @Bool.or_eq_true, @Bool.and_eq_true, @Bool.or_eq_false_iff, @Bool.and_eq_false_iff, @gt_iff_lt.{0}, @ge_iff_le.{0}, @Int.ofNat_lt, @Int.ofNat_le, @Int.ofNat_inj, @Nat.not_lt, @Nat.not_le, @ints_length, @bools_length, @intss_length, @cond_true.{1}, @cond_false.{1}⟩

theorem NEc : type_of% @ne_eq.{1} ∧ type_of% @not_false_eq_true ∧ type_of% @Exit.exit.injEq :=
  ⟨@ne_eq.{1}, @not_false_eq_true, @Exit.exit.injEq⟩

end Go.Am
end
section
namespace Go.Am
variable {σ : St}

/-! ### lists of records -/

class Row {α : Type} (enc : α → List AV) (sz : outParam Nat) : Prop where
  wid : ∀ x, (enc x).length = sz
  ok : ∀ x, ∀ v ∈ enc x, (∃ y, v = .lit y ∧ y.oneCell' = true) ∨ ∃ s r, v = .tree s r

def rowsOf {α : Type} (enc : α → List AV) (xs : List α) : List (List AV) := xs.map enc

section
variable {α : Type} {enc : α → List AV} {sz : Nat}
theorem rows_length (xs : List α) : (rowsOf enc xs).length = xs.length := by simp [rowsOf]
theorem rows_getD [Inhabited α] (xs : List α) (i : Nat) (h : i < xs.length) : (rowsOf enc xs).getD i [] = enc (xs.getD i default) := by simp [rowsOf, h]
theorem rows_get [Inhabited α] (xs : List α) (i : Nat) (h : i < xs.length) : (rowsOf enc xs)[i]? = some (enc (xs.getD i default)) := by simp [rowsOf, h]
theorem rows_take (xs : List α) : (rowsOf enc xs).take xs.length = rowsOf enc xs := by rw [List.take_of_length_le (by simp [rowsOf])]
theorem rows_app (xs ys : List α) : rowsOf enc xs ++ rowsOf enc ys = rowsOf enc (xs ++ ys) := by simp [rowsOf]
theorem rows_app1 (xs : List α) (x : α) : rowsOf enc xs ++ [enc x] = rowsOf enc (xs ++ [x]) := by simp [rowsOf]
theorem rows_set (xs : List α) (i : Nat) (x : α) : (rowsOf enc xs).set i (enc x) = rowsOf enc (xs.set i x) := by simp [rowsOf, List.map_set]
theorem row_scal [Row enc sz] (x : α) : (enc x).all scal = true := by
  rw [List.all_eq_true]
  intro v hv
  rcases Row.ok (enc := enc) x v hv with ⟨y, rfl, h⟩ | ⟨s, r, rfl⟩
  · simpa [scal] using h
  · rfl
theorem rows_scal [Row enc sz] (xs : List α) : ((rowsOf enc xs).all fun row => row.all scal) = true := by
  simp only [rowsOf, List.all_map, List.all_eq_true]
  intro x _
  exact row_scal (enc := enc) x
theorem noRefL_of {l : List AV} (h : ∀ v ∈ l, noRef v = true) : noRefL l = true := by
  induction l with
  | nil => rfl
  | cons v l ih => simp only [noRefL, Bool.and_eq_true]; exact ⟨h v (by simp), ih fun x hx => h x (by simp [hx])⟩
theorem row_noRef [Row enc sz] (x : α) : noRefL (enc x) = true := noRefL_of fun v hv => by
  rcases Row.ok (enc := enc) x v hv with ⟨y, rfl, _⟩ | ⟨s, r, rfl⟩ <;> rfl
theorem rows_ren [Row enc sz] (ρ : Nat → Nat) (s : Nat) (xs : List α) : renO ρ (.arr s (rowsOf enc xs)) = .arr s (rowsOf enc xs) := renO_noRef (by
  intro row hr
  simp only [rowsOf, List.mem_map] at hr
  obtain ⟨x, _, rfl⟩ := hr
  exact row_noRef (enc := enc) x)
theorem rows_frz [Row enc sz] (xs : List α) : ∀ row ∈ rowsOf enc xs, ∀ v ∈ row, (∃ x, v = AV.lit x) ∨ ∃ s r, v = AV.tree s r := by
  intro row hr v hv
  simp only [rowsOf, List.mem_map] at hr
  obtain ⟨x, _, rfl⟩ := hr
  rcases Row.ok (enc := enc) x v hv with ⟨y, rfl, _⟩ | h
  · exact .inl ⟨_, rfl⟩
  · exact .inr h
theorem rows_wid [Row enc sz] (xs : List α) : ∀ row ∈ rowsOf enc xs, row.length = sz := by
  intro row hr
  simp only [rowsOf, List.mem_map] at hr
  obtain ⟨x, _, rfl⟩ := hr
  exact Row.wid (enc := enc) x
theorem ren_row [Row enc sz] (ρ : Nat → Nat) (x : α) : (enc x).map (ren ρ) = enc x := by
  have := renL_noRef ρ (enc x) (row_noRef (enc := enc) x)
  rwa [renL_eq] at this
end

/-! ### models -/

structure Opt where
  wk : Int
  day : Int
  st : Int
  len : Int
  room : Int
  ch : List (Int × Int)
  deriving Inhabited
structure Pr where
  fst : Int
  snd : Int
  rule : Int
  tab : List Int
  deriving Inhabited
structure Ld where
  cls : Int
  opt : Int
  wt : Int
  deriving Inhabited
structure Ct where
  rule : Int
  loads : List Ld
  most : Int
  pen : Int
  deriving Inhabited
structure Mdl where
  cls : List (List Opt)
  prs : List Pr
  cts : List Ct
  rules : Int
  deriving Inhabited

def i64 (n : Int) : AV := .lit (.int .i64 n)
def eCh (c : Int × Int) : List AV := [.lit (.int .i64 c.1), .lit (.int .i64 c.2)]
def eOpt (o : Opt) : List AV := [.lit (.int .i64 o.wk), .lit (.int .i64 o.day), .lit (.int .i64 o.st), .lit (.int .i64 o.len), .lit (.int .i64 o.room), .tree 2 (rowsOf eCh o.ch)]
def eCls (l : List Opt) : List AV := [.tree 6 (rowsOf eOpt l)]
def ePr (p : Pr) : List AV := [.lit (.int .i64 p.fst), .lit (.int .i64 p.snd), .lit (.int .i64 p.rule), .tree 1 (ints p.tab)]
def eLd (l : Ld) : List AV := [.lit (.int .i64 l.cls), .lit (.int .i64 l.opt), .lit (.int .i64 l.wt)]
def eCt (c : Ct) : List AV := [.lit (.int .i64 c.rule), .tree 3 (rowsOf eLd c.loads), .lit (.int .i64 c.most), .lit (.int .i64 c.pen)]
def eMdl (m : Mdl) : List AV := [.tree 1 (rowsOf eCls m.cls), .tree 4 (rowsOf ePr m.prs), .tree 4 (rowsOf eCt m.cts), .lit (.int .i64 m.rules)]

theorem rowOk {l : List AV} (h : (l.all fun v => match v with | .lit y => y.oneCell' | .tree .. => true | _ => false) = true) : ∀ v ∈ l, (∃ y, v = AV.lit y ∧ y.oneCell' = true) ∨ ∃ s r, v = AV.tree s r := by
  intro v hv
  have := List.all_eq_true.1 h v hv
  cases v <;> simp at this
  · exact .inl ⟨_, rfl, this⟩
  · exact .inr ⟨_, _, rfl⟩

instance : Row eCh 2 := ⟨fun _ => rfl, fun _ => rowOk rfl⟩
instance : Row eOpt 6 := ⟨fun _ => rfl, fun _ => rowOk rfl⟩
instance : Row eCls 1 := ⟨fun _ => rfl, fun _ => rowOk rfl⟩
instance : Row ePr 4 := ⟨fun _ => rfl, fun _ => rowOk rfl⟩
instance : Row eLd 3 := ⟨fun _ => rfl, fun _ => rowOk rfl⟩
instance : Row eCt 4 := ⟨fun _ => rfl, fun _ => rowOk rfl⟩
instance : Row eMdl 4 := ⟨fun _ => rfl, fun _ => rowOk rfl⟩

end Go.Am
end
section
namespace Go.Am
variable {P : Program} {N n0 : Nat} {σ : St} {Q : Exit → St → Prop}

/-- the operations of a drawn region in the text's order; the calls in qs are quiet -/
def opsLQ (P : Program) (ops : Array Oper) (qs : List Nat) : Nat → List Oper → (St → Prop) → St → Prop
  | _, [], K, σ => K σ
  | i, o :: r, K, σ => stepD P ops (qs.contains i) o (opsLQ P ops qs (i + 1) r K) σ

theorem opsLQ_nil {ops : Array Oper} {qs : List Nat} {i : Nat} {K : St → Prop} : opsLQ P ops qs i [] K σ = K σ := by simp only [opsLQ]
theorem opsLQ_cons {ops : Array Oper} {qs : List Nat} {i : Nat} {o : Oper} {r : List Oper} {K : St → Prop} : opsLQ P ops qs i (o :: r) K σ = stepD P ops (qs.contains i) o (opsLQ P ops qs (i + 1) r K) σ := by simp only [opsLQ]
theorem opsLQ_go {ops : Array Oper} {qs : List Nat} {i : Nat} {o : Oper} {r : List Oper} {K : St → Prop} (h : opsLQ P ops qs i (o :: r) K σ) : opsLQ P ops qs i (o :: r) K σ := h

theorem planW_seqQ {ops : Array Oper} {qs : List Nat} {K : St → Prop} : ∀ (l : List Oper) (i : Nat) (σ : St), ops.toList.drop i = l → opsLQ P ops qs i l K σ → planW P ops qs (seqP (List.range' i l.length)) K σ
  | [], i, σ, _, h => h
  | o :: r, i, σ, hl, h => by
    have hi : ops[i]? = some o := by
      have : (ops.toList.drop i)[0]? = some o := by rw [hl]; rfl
      simpa using this
    have hr : ops.toList.drop (i + 1) = r := by
      have := congrArg List.tail hl
      simpa [List.tail_drop] using this
    rw [List.length_cons, List.range'_succ]
    show stepAt P ops qs i (planW P ops qs (seqP (List.range' (i + 1) r.length)) K) σ
    unfold stepAt
    simp only [hi]
    have hm : ∀ s, opsLQ P ops qs (i + 1) r K s → planW P ops qs (seqP (List.range' (i + 1) r.length)) K s := fun s hs => planW_seqQ r (i + 1) s hr hs
    exact stepD_mono hm h

def inTextQ (ops : Array Oper) (qs : List Nat) : Bool := (seqP (List.range ops.size)).ok ops qs ops.size (Array.replicate ops.size false)

theorem W_draw_q {id : Nat} {ops : Array Oper} {y : Code} (qs : List Nat) (hm : P.follows .mixedOrders = true) (hd : dstOK N ops = true) (ht : inTextQ ops qs = true) (h : ∀ K : St → Prop, (∀ s, W P N n0 y Q s → K s) → opsLQ P ops qs 0 ops.toList K σ) :
    W P N n0 (.seq (.region id ops true) y) Q σ :=
  W_draw_k qs _ hm hd ht fun K hK => by
    have := planW_seqQ (P := P) (ops := ops) (qs := qs) ops.toList 0 σ rfl (h K hK)
    rw [List.range_eq_range']
    simpa using this

theorem W_draw_qe {id : Nat} {ops : Array Oper} (qs : List Nat) (hm : P.follows .mixedOrders = true) (hd : dstOK N ops = true) (ht : inTextQ ops qs = true) (h : ∀ K : St → Prop, (∀ s, Q .normal s → K s) → opsLQ P ops qs 0 ops.toList K σ) :
    W P N n0 (.region id ops true) Q σ :=
  W_draw qs _ hm hd ht (by
    have := planW_seqQ (P := P) (ops := ops) (qs := qs) ops.toList 0 σ rfl (h _ (fun _ h => h))
    rw [List.range_eq_range']
    simpa using this)

theorem callQ_pure {f : FuncId} {args : List AV} {dst : Option Tmp} {K : St → Prop} {res : AV} (h : Holds P f args [] res []) (ha : noRefL args = true) (hr : noRef res = true) (hK : K (σ.put dst res)) : callQ P f args dst K σ :=
  ⟨res, h, ha, hr, hK⟩

end Go.Am
end
section
namespace Go.Am
variable {P : Program} {N n0 : Nat} {σ : St} {Q : Exit → St → Prop}

/-- an own variable is described otherwise, cell by cell -/
theorem Sim.revar {σ : St} {γ : Cx} (h : Sim σ γ) {id : Nat} {cells cells' : List AV} (ho : σ.objs[id]? = some (.var cells)) (hl : cells'.length = cells.length)
    (hc : ∀ (c : Nat) v v', cells[c]? = some v → cells'[c]? = some v' → ∀ cv, RelV σ.objs γ.w γ.Z γ.blk v cv → RelV σ.objs γ.w γ.Z γ.blk v' cv) : Sim ⟨σ.env, σ.objs.set id (.var cells')⟩ γ := by
  obtain ⟨b, cap, cur, t, h1, h2, h3, h4⟩ := h.obs id _ ho
  have := h.write (ob' := .var cells') ho (by simp) (by simp [Ob.like, hl]) h1 (w' := γ.w) h2 (fun _ _ => rfl) rfl ⟨rfl, by rw [h3, hl], fun c v hv => ?_⟩
  · exact this
  · have hlt : c < cells.length := by rw [← hl]; exact (List.getElem?_eq_some_iff.1 hv).1
    exact hc c _ v (List.getElem?_eq_getElem hlt) hv _ (h4 c _ (List.getElem?_eq_getElem hlt))

theorem Fr.revar (os : List Ob) (γ : Cx) {id : Nat} {cells cells' : List AV} (ho : os[id]? = some (.var cells)) (hl : cells'.length = cells.length) : Fr os γ (os.set id (.var cells')) γ where
  eos := rfl
  tape := rfl
  output := rfl
  size := Nat.le_refl _
  keep := fun _ _ _ => rfl
  z0 := fun _ h => h
  z1 := fun _ h => .inl h
  own := by
    rintro b ⟨i, o, c, ⟨x, hx, hgx⟩, hb⟩
    rw [List.getElem?_set] at hx
    split at hx
    · rename_i e; subst e; exact .inl ⟨id, o, c, ⟨_, ho, by simp⟩, hb⟩
    · exact .inl ⟨i, o, c, ⟨x, hx, hgx⟩, hb⟩
  len := by simp
  old := by
    rintro i hi ⟨x, hx, hgx⟩
    have hx0 := hx
    rw [List.getElem?_set] at hx
    split at hx
    · rename_i e; subst e
      exact ⟨rfl, .var cells, .var cells', ho, by rw [List.getElem?_set]; simp [hi], by simp [Ob.like, hl]⟩
    · exact ⟨rfl, x, x, hx, hx0, Ob.like_refl hgx⟩

/-- a nil slice in a cell of an own variable becomes a slice of the activation's own -/
theorem Turns.nilC (id c sz : Nat) {cells : List AV} (ho : σ.objs[id]? = some (.var cells)) (hc : cells[c]? = some (.lit (.slice none 0 0))) (h0 : 0 < sz) :
    Turns n0 σ ⟨σ.env, (σ.objs ++ [Ob.arr sz []]).set id (.var (cells.set c (.ref σ.objs.length sz 0 0)))⟩ := by
  intro os γ0 γ _ hs hf
  have hp := hs.pushNil h0
  have hid : id < σ.objs.length := (List.getElem?_eq_some_iff.1 ho).1
  have ho' : (σ.objs ++ [Ob.arr sz []])[id]? = some (.var cells) := by rw [List.getElem?_append_left hid]; exact ho
  refine ⟨{ γ with blk := updB γ.blk σ.objs.length none }, rfl, rfl, ?_, (hf.trans (Fr.pushNil _ _ _)).trans (Fr.revar _ _ ho' (cells' := cells.set c (.ref σ.objs.length sz 0 0)) (by simp))⟩
  refine hp.revar ho' (cells' := cells.set c (.ref σ.objs.length sz 0 0)) (by simp) (fun k v v' hv hv' cv hr => ?_)
  rw [List.getElem?_set] at hv'
  split at hv'
  · rename_i e; subst e
    split at hv'
    · simp only [Option.some.injEq] at hv'
      subst hv'
      have hk : cells[c]? = some v := hv
      rw [hc] at hk
      simp only [Option.some.injEq] at hk
      subst hk
      rw [hr.lit_inv]
      exact .refNil _ _ (List.getElem?_concat_length ..) (by simp [updB])
    · simp at hv'
  · have hk : cells[k]? = some v' := hv'
    have hk2 : cells[k]? = some v := hv
    rw [hk2] at hk
    simp only [Option.some.injEq] at hk
    subst hk
    exact hr

/-- an own slice that stands in a cell of an own variable may only be read from now on -/
theorem Turns.frzV (a id c sz : Nat) {cells : List AV} {rows : List (List AV)} (ho : σ.objs[id]? = some (.var cells)) (ha : σ.objs[a]? = some (.arr sz rows)) (hc : cells[c]? = some (.ref a sz 0 rows.length))
    (hw : ∀ row ∈ rows, row.length = sz) (hfz : ∀ row ∈ rows, ∀ v ∈ row, (∃ x, v = .lit x) ∨ ∃ s r, v = .tree s r) : Turns n0 σ ⟨σ.env, (σ.objs.set a .gone).set id (.var (cells.set c (.tree sz rows)))⟩ := by
  intro os γ0 γ _ hs hf
  have hai : a ≠ id := by intro e; subst e; rw [ho] at ha; simp at ha
  have hidl : id < σ.objs.length := (List.getElem?_eq_some_iff.1 ho).1
  have hal : a < σ.objs.length := (List.getElem?_eq_some_iff.1 ha).1
  let γ' : Cx := { γ with Z := fun b => γ.Z b ∨ ∃ o cap, γ.blk a = some (b, o, cap) }
  let os2 := (σ.objs.set a .gone).set id (.var (cells.set c (.tree sz rows)))
  have hget : ∀ i, os2[i]? = if i = id then some (.var (cells.set c (.tree sz rows))) else if i = a then some .gone else σ.objs[i]? := by
    intro i
    show ((σ.objs.set a .gone).set id _)[i]? = _
    rw [List.getElem?_set, List.getElem?_set]
    by_cases h1 : i = id
    · subst h1; simp [hidl]
    · by_cases h2 : i = a
      · subst h2; simp [Ne.symm h1, h1, hal]
      · simp [Ne.symm h1, Ne.symm h2, h1, h2]
  have hR : ∀ v cv, RelV σ.objs γ.w γ.Z γ.blk v cv → RelV os2 γ'.w γ'.Z γ'.blk v cv := fun v cv hv =>
    hv.mono (fun b hb => ⟨.inl hb, rfl⟩) (fun i o hi => by
      rw [hget]
      by_cases h1 : i = id
      · subst h1
        rw [ho] at hi
        simp only [Option.some.injEq] at hi
        subst hi
        right
        exact ⟨rfl, _, by rw [if_pos rfl], by simp [Ob.like]⟩
      · rw [if_neg h1]
        by_cases h2 : i = a
        · left; rw [if_pos h2]
        · rw [if_neg h2]
          by_cases hg : o = .gone
          · subst hg; exact .inl hi
          · exact .inr ⟨rfl, o, hi, Ob.like_refl hg⟩)
  have hlive : ∀ i, Live os2 i → Live σ.objs i ∧ i ≠ a := by
    rintro i ⟨o, hi, hg⟩
    rw [hget] at hi
    split at hi
    · rename_i h1; subst h1; exact ⟨⟨_, ho, by simp⟩, Ne.symm hai⟩
    · split at hi
      · simp at hi; exact absurd hi.symm hg
      · rename_i h2; exact ⟨⟨o, hi, hg⟩, h2⟩
  have hav : Live σ.objs a := ⟨_, ha, by simp⟩
  refine ⟨γ', rfl, rfl, ⟨fun k => hR _ _ (hs.slots k), ?_, fun i j b o c o' c' hi hj => hs.inj i j b o c o' c' (hlive i hi).1 (hlive j hj).1, ?_, ?_, fun g => globA_rel (hs.gl g) fun b hb => ⟨.inl hb, rfl⟩⟩, ?_⟩
  · intro i o hi
    have hi' : os2[i]? = some o := hi
    rw [hget] at hi'
    split at hi'
    · rename_i h1
      subst h1
      simp only [Option.some.injEq] at hi'
      subst hi'
      obtain ⟨b, cap, cur, t, h1, h2, h3, h4⟩ := hs.obs _ _ ho
      refine ⟨b, cap, cur, t, h1, h2, by simpa using h3, fun k v hv => ?_⟩
      rw [List.getElem?_set] at hv
      split at hv
      · rename_i e
        subst e
        split at hv
        · simp only [Option.some.injEq] at hv
          subst hv
          have hfr : Frz σ (fun x => x ≠ a) (.tree sz rows) (.ref a sz 0 rows.length) := Frz.flat ha hw rfl (by simp) hfz
          exact .frz _ _ (hfr.treeR hs (γc := γ') (fun b hb => .inl hb) rfl (fun x b o cap hid _ hb => .inr ⟨o, cap, by rw [show a = x by simpa using (Decidable.not_not.1 hid).symm]; exact hb⟩) _ (h4 c _ hc))
        · simp at hv
      · exact hR _ _ (h4 k v hv)
    · split at hi'
      · simp only [Option.some.injEq] at hi'; subst hi'; trivial
      · by_cases hg : o = .gone
        · subst hg; trivial
        · exact (hs.obs i o hi').mono hR rfl (fun _ _ _ _ => rfl)
  · rintro b ⟨i, o, c', hi, hb⟩ (hz | ⟨o', cap, hb'⟩)
    · exact hs.nz b ⟨i, o, c', (hlive i hi).1, hb⟩ hz
    · exact (hlive i hi).2 (hs.inj i a b o c' o' cap (hlive i hi).1 hav hb hb')
  · rintro b (hz | ⟨o, cap, hb⟩)
    · exact hs.zlt b hz
    · exact hs.blt hav hb
  · refine ⟨hf.eos, hf.tape, hf.output, hf.size, hf.keep, fun b hb => .inl (hf.z0 b hb), ?_, ?_, by show os.length ≤ os2.length; simp [os2]; exact hf.len, ?_, hf.drawn⟩
    · rintro b (hz | ⟨o, cap, hb⟩)
      · exact hf.z1 b hz
      · exact .inr (hf.own b ⟨a, o, cap, hav, hb⟩)
    · rintro b ⟨i, o, c', hi, hb⟩
      exact hf.own b ⟨i, o, c', (hlive i hi).1, hb⟩
    · intro i hi hl
      obtain ⟨h1, x, x', hx, hx', hk⟩ := hf.old i hi (hlive i hl).1
      have hia := (hlive i hl).2
      have hl' : Live os2 i := hl
      obtain ⟨o, ho2, hg2⟩ := hl'
      refine ⟨h1, x, o, hx, ho2, ?_⟩
      rw [hget] at ho2
      split at ho2
      · rename_i e
        subst e
        rw [ho] at hx'
        simp only [Option.some.injEq] at hx' ho2
        subst hx'; subst ho2
        refine Ob.like_trans hk (by simp [Ob.like])
      · rw [hx'] at ho2
        simp only [Option.some.injEq] at ho2
        subst ho2; exact hk

end Go.Am
end
section
namespace Go.Am
variable {P : Program}

def eqTile (P : Program) : List Field → Nat → Nat → Bool
  | [], o, n => o == n
  | f :: fs, o, n => f.offset == o && eqTile P fs (o + P.cellsOf f.type) n

/-- structs of numbers, however deep -/
def eqOK (P : Program) : Nat → TypeId → Bool
  | 0, _ => false
  | d + 1, t =>
    match P.underlying t with
    | some (.int .i64) => P.cellsOf t == 1
    | some (.struct fs) => (P.info? t).isSome && !P.stoodInHeld t && eqTile P fs.toList 0 (P.cellsOf t) && fs.toList.all fun f => f.name != "_" && eqOK P d f.type
    | _ => false

def valT (P : Program) (t : TypeId) (xs : List Int) : Value :=
  match P.underlying t with
  | some (.struct _) => .agg (xs.map (Value.int .i64)).toArray
  | _ => .int .i64 (xs.getD 0 0)

theorem drop_split {as bs : List Int} {o c : Nat} (h : as.length = bs.length) : as.drop o = bs.drop o ↔ (as.drop o).take c = (bs.drop o).take c ∧ as.drop (o + c) = bs.drop (o + c) := by
  constructor
  · intro e
    refine ⟨by rw [e], ?_⟩
    rw [← List.drop_drop, ← List.drop_drop, e]
  · rintro ⟨e1, e2⟩
    rw [← List.drop_drop, ← List.drop_drop] at e2
    rw [← List.take_append_drop c (as.drop o), ← List.take_append_drop c (bs.drop o), e1, e2]

theorem run_partT (w : World) {d : Nat} {t : TypeId} (h : eqOK P d t = true) {as : List Int} {o : Nat} (ho : o + P.cellsOf t ≤ as.length) :
    (part t (as.map (Value.int .i64)).toArray o).run P w = .ok (valT P t ((as.drop o).take (P.cellsOf t))) w := by
  cases d with
  | zero => simp [eqOK] at h
  | succ d =>
    unfold eqOK at h
    cases hu : P.underlying t with
    | none => simp [hu] at h
    | some k =>
      rw [hu] at h
      cases k <;> try (simp at h; done)
      case int q =>
        cases q <;> try (simp at h; done)
        have hc : P.cellsOf t = 1 := by simpa using h
        rw [hc] at ho
        have hx : ((as.map (Value.int .i64)).toArray)[o]? = some (.int .i64 (as.getD o 0)) := by
          have : o < as.length := by omega
          simp [this]
        simp only [part, isAgg, Sem.run_bind, run_underlying hu, Result.andThen_ok, Sem.run_pure, Bool.false_eq_true, if_false, Sem.run_ite, hx]
        have : o < as.length := by omega
        simp [valT, hu, hc, this]
      case struct fs =>
        simp only [Bool.and_eq_true] at h
        obtain ⟨i, hi⟩ := Option.isSome_iff_exists.1 h.1.1.1
        have hs : ∀ w, (sizeOf t).run P w = .ok (P.cellsOf t) w := fun w => by
          simp [sizeOf, typeInfo, Program.cellsOf, hi, run_program]
        simp only [part, isAgg, Sem.run_bind, run_underlying hu, Result.andThen_ok, Sem.run_pure, if_true, Sem.run_ite, hs]
        simp only [valT, hu]
        congr 2
        simp [List.map_take, List.map_drop]

theorem run_eqFieldsT {D d : Nat} (ih : ∀ t, eqOK P d t = true → ∀ (w : World) (as bs : List Int), as.length = P.cellsOf t → bs.length = P.cellsOf t → (Op.equalIn (D + d) t (valT P t as) (valT P t bs)).run P w = .ok (decide (as = bs)) w) {as bs : List Int} (hl : as.length = bs.length) :
    ∀ (fs : List Field) (o : Nat) (w : World), eqTile P fs o as.length = true → (fs.all fun f => f.name != "_" && eqOK P d f.type) = true →
      o + (fs.map fun f => P.cellsOf f.type).sum = as.length → (Op.eqFields (D + d) (as.map (Value.int .i64)).toArray (bs.map (Value.int .i64)).toArray fs).run P w = .ok (decide (as.drop o = bs.drop o)) w
  | [], o, w, ht, _, hs => by
    have : o = as.length := by simpa [eqTile] using ht
    subst this
    have : bs.drop as.length = [] := List.drop_eq_nil_of_le (by omega)
    simp [Op.eqFields, this]
  | f :: fs, o, w, ht, ha, hs => by
    simp only [eqTile, Bool.and_eq_true, beq_iff_eq] at ht
    obtain ⟨rfl, ht⟩ := ht
    simp only [List.all_cons, Bool.and_eq_true, bne_iff_ne] at ha
    simp only [List.map_cons, List.sum_cons] at hs
    have h1 := run_partT (as := as) w ha.1.2 (o := f.offset) (by omega)
    have h2 := run_partT (as := bs) w ha.1.2 (o := f.offset) (by omega)
    have h3 := ih f.type ha.1.2 w ((as.drop f.offset).take (P.cellsOf f.type)) ((bs.drop f.offset).take (P.cellsOf f.type)) (by simp; omega) (by simp; omega)
    have h4 := run_eqFieldsT ih hl fs (f.offset + P.cellsOf f.type) w ht ha.2 (by omega)
    simp only [Op.eqFields]
    rw [if_pos ha.1.1]
    simp only [Sem.run_bind, h1, h2, h3, Result.andThen_ok, Sem.run_ite, Sem.run_pure, h4]
    by_cases he : (as.drop f.offset).take (P.cellsOf f.type) = (bs.drop f.offset).take (P.cellsOf f.type)
    · rw [decide_eq_true he]
      simp only [Bool.not_true, Bool.false_eq_true, if_false]
      congr 1
      rw [decide_eq_decide, drop_split (o := f.offset) (c := P.cellsOf f.type) hl]
      simp [he]
    · rw [decide_eq_false he]
      simp only [Bool.not_false, if_true]
      congr 1
      rw [eq_comm, decide_eq_false_iff_not, drop_split (o := f.offset) (c := P.cellsOf f.type) hl]
      exact fun h => he h.1

theorem tile_sum : ∀ (fs : List Field) (o n : Nat), eqTile P fs o n = true → o + (fs.map fun f => P.cellsOf f.type).sum = n
  | [], o, n, h => by simpa [eqTile] using h
  | f :: fs, o, n, h => by
    simp only [eqTile, Bool.and_eq_true, beq_iff_eq] at h
    have := tile_sum fs _ n h.2
    simp only [List.map_cons, List.sum_cons]; omega

theorem eqT_main (D : Nat) : ∀ (d : Nat) (t : TypeId), eqOK P d t = true → ∀ (w : World) (as bs : List Int), as.length = P.cellsOf t → bs.length = P.cellsOf t → (Op.equalIn (D + d) t (valT P t as) (valT P t bs)).run P w = .ok (decide (as = bs)) w
  | 0, t, h => by simp [eqOK] at h
  | d + 1, t, h => by
    intro w as bs ha hb
    unfold eqOK at h
    cases hu : P.underlying t with
    | none => simp [hu] at h
    | some k =>
      rw [hu] at h
      cases k <;> try (simp at h; done)
      case int q =>
        cases q <;> try (simp at h; done)
        have hc : P.cellsOf t = 1 := by simpa using h
        rw [hc] at ha hb
        match as, bs, ha, hb with
        | [a], [b], _, _ =>
          simp only [valT, hu, List.getD_cons_zero]
          rw [show D + (d + 1) = (D + d) + 1 from rfl, run_equalIn_int w (D + d) t .i64 .i64 a b hu]
          congr 1
          rw [Bool.eq_iff_iff]; simp
      case struct fs =>
        simp only [Bool.and_eq_true, Bool.not_eq_true'] at h
        have hf : P.fieldsOf t = fs := by simp [Program.fieldsOf, hu]
        simp only [valT, hu]
        rw [show D + (d + 1) = (D + d) + 1 from rfl, run_equalIn_struct w (D + d) t _ _ (by rw [hf]; exact hu) h.1.1.2, hf]
        have := run_eqFieldsT (D := D) (eqT_main D d) (as := as) (bs := bs) (by omega) fs.toList 0 w (by rw [ha]; exact h.1.2) h.2 (by rw [ha]; exact tile_sum _ _ _ h.1.2)
        simpa using this

def eqTest (P : Program) (d : Nat) (t : TypeId) (n : Nat) : Bool :=
  (match P.underlying t with | some (.struct _) => true | _ => false) && decide (d ≤ 10000) && eqOK P d t && (P.cellsOf t == n)

theorem EqT.of {t : TypeId} (d : Nat) {n : Nat} (h : eqTest P d t n = true) : EqT P t n := by
  intro w as bs ha hb
  simp only [eqTest, Bool.and_eq_true, decide_eq_true_eq, beq_iff_eq] at h
  obtain ⟨⟨⟨h1, hd⟩, h2⟩, h3⟩ := h
  have := eqT_main (10000 - d) d t h2 w as bs (by omega) (by omega)
  rw [Nat.sub_add_cancel hd] at this
  cases hu : P.underlying t with
  | none => rw [hu] at h1; simp at h1
  | some k =>
    cases k <;> rw [hu] at h1 <;> try (simp at h1; done)
    simpa only [valT, hu] using this

end Go.Am
end
section
namespace Go.Am
variable {P : Program} {N n0 : Nat} {σ : St} {Q : Exit → St → Prop}

def isCallO (o : Oper) : Bool :=
  match o.op with
  | .call c => match c.callee with
    | .value _ => true
    | _ => false
  | _ => false

def callsOf (ops : Array Oper) : List Nat := (List.range ops.size).filter fun i => match ops[i]? with | some o => isCallO o | none => false

/-- the operations of a drawn region in the text's order; all calls are quiet -/
def opsLA (P : Program) (ops : Array Oper) : List Oper → (St → Prop) → St → Prop
  | [], K, σ => K σ
  | o :: r, K, σ => stepD P ops (isCallO o) o (opsLA P ops r K) σ

theorem opsLA_nil {ops : Array Oper} {K : St → Prop} : opsLA P ops [] K σ = K σ := by simp only [opsLA]
theorem opsLA_cons {ops : Array Oper} {o : Oper} {r : List Oper} {K : St → Prop} : opsLA P ops (o :: r) K σ = stepD P ops (isCallO o) o (opsLA P ops r K) σ := by simp only [opsLA]
theorem opsLA_go {ops : Array Oper} {o : Oper} {r : List Oper} {K : St → Prop} (h : opsLA P ops (o :: r) K σ) : opsLA P ops (o :: r) K σ := h

theorem callsOf_contains {ops : Array Oper} {i : Nat} {o : Oper} (h : ops[i]? = some o) : (callsOf ops).contains i = isCallO o := by
  have hi : i < ops.size := (Array.getElem?_eq_some_iff.1 h).1
  rw [Bool.eq_iff_iff, List.contains_iff_mem]
  simp only [callsOf, List.mem_filter, List.mem_range, hi, true_and, h]

theorem opsLA_opsLQ {ops : Array Oper} {K : St → Prop} : ∀ (l : List Oper) (i : Nat) (σ : St), ops.toList.drop i = l → opsLA P ops l K σ → opsLQ P ops (callsOf ops) i l K σ
  | [], i, σ, _, h => h
  | o :: r, i, σ, hl, h => by
    have hi : ops[i]? = some o := by
      have : (ops.toList.drop i)[0]? = some o := by rw [hl]; rfl
      simpa using this
    have hr : ops.toList.drop (i + 1) = r := by
      have := congrArg List.tail hl
      simpa [List.tail_drop] using this
    rw [opsLQ_cons, callsOf_contains hi]
    rw [opsLA_cons] at h
    exact stepD_mono (fun s hs => opsLA_opsLQ r (i + 1) s hr hs) h

def inTextA (ops : Array Oper) : Bool := inTextQ ops (callsOf ops)

theorem W_draw_a {id : Nat} {ops : Array Oper} {y : Code} (hm : P.follows .mixedOrders = true) (hd : dstOK N ops = true) (ht : inTextA ops = true) (h : ∀ K : St → Prop, (∀ s, W P N n0 y Q s → K s) → opsLA P ops ops.toList K σ) :
    W P N n0 (.seq (.region id ops true) y) Q σ :=
  W_draw_q (callsOf ops) hm hd ht fun K hK => opsLA_opsLQ ops.toList 0 σ rfl (h K hK)

theorem W_draw_ae {id : Nat} {ops : Array Oper} (hm : P.follows .mixedOrders = true) (hd : dstOK N ops = true) (ht : inTextA ops = true) (h : ∀ K : St → Prop, (∀ s, Q .normal s → K s) → opsLA P ops ops.toList K σ) :
    W P N n0 (.region id ops true) Q σ :=
  W_draw_qe (callsOf ops) hm hd ht fun K hK => opsLA_opsLQ ops.toList 0 σ rfl (h K hK)

/-! the same, all calls but the last one -/
def laterCall : List Oper → Bool
  | [] => false
  | o :: r => isCallO o || laterCall r
def callsB (ops : Array Oper) : List Nat := (List.range ops.size).filter fun i => match ops[i]? with | some o => isCallO o && laterCall (ops.toList.drop (i + 1)) | none => false
def opsLB (P : Program) (ops : Array Oper) : List Oper → (St → Prop) → St → Prop
  | [], K, σ => K σ
  | o :: r, K, σ => stepD P ops (isCallO o && laterCall r) o (opsLB P ops r K) σ
theorem opsLB_nil {ops : Array Oper} {K : St → Prop} : opsLB P ops [] K σ = K σ := by simp only [opsLB]
theorem opsLB_cons {ops : Array Oper} {o : Oper} {r : List Oper} {K : St → Prop} : opsLB P ops (o :: r) K σ = stepD P ops (isCallO o && laterCall r) o (opsLB P ops r K) σ := by simp only [opsLB]
theorem opsLB_go {ops : Array Oper} {o : Oper} {r : List Oper} {K : St → Prop} (h : opsLB P ops (o :: r) K σ) : opsLB P ops (o :: r) K σ := h
theorem callsB_contains {ops : Array Oper} {i : Nat} {o : Oper} {r : List Oper} (h : ops[i]? = some o) (hr : ops.toList.drop (i + 1) = r) : (callsB ops).contains i = (isCallO o && laterCall r) := by
  have hi : i < ops.size := (Array.getElem?_eq_some_iff.1 h).1
  rw [Bool.eq_iff_iff, List.contains_iff_mem]
  simp only [callsB, List.mem_filter, List.mem_range, hi, true_and, h, hr]
theorem opsLB_opsLQ {ops : Array Oper} {K : St → Prop} : ∀ (l : List Oper) (i : Nat) (σ : St), ops.toList.drop i = l → opsLB P ops l K σ → opsLQ P ops (callsB ops) i l K σ
  | [], i, σ, _, h => h
  | o :: r, i, σ, hl, h => by
    have hi : ops[i]? = some o := by
      have : (ops.toList.drop i)[0]? = some o := by rw [hl]; rfl
      simpa using this
    have hr : ops.toList.drop (i + 1) = r := by
      have := congrArg List.tail hl
      simpa [List.tail_drop] using this
    rw [opsLQ_cons, callsB_contains hi hr]
    rw [opsLB_cons] at h
    exact stepD_mono (fun s hs => opsLB_opsLQ r (i + 1) s hr hs) h
def inTextB (ops : Array Oper) : Bool := inTextQ ops (callsB ops)
theorem W_draw_b {id : Nat} {ops : Array Oper} {y : Code} (hm : P.follows .mixedOrders = true) (hd : dstOK N ops = true) (ht : inTextB ops = true) (h : ∀ K : St → Prop, (∀ s, W P N n0 y Q s → K s) → opsLB P ops ops.toList K σ) :
    W P N n0 (.seq (.region id ops true) y) Q σ :=
  W_draw_q (callsB ops) hm hd ht fun K hK => opsLB_opsLQ ops.toList 0 σ rfl (h K hK)
theorem W_draw_be {id : Nat} {ops : Array Oper} (hm : P.follows .mixedOrders = true) (hd : dstOK N ops = true) (ht : inTextB ops = true) (h : ∀ K : St → Prop, (∀ s, Q .normal s → K s) → opsLB P ops ops.toList K σ) :
    W P N n0 (.region id ops true) Q σ :=
  W_draw_qe (callsB ops) hm hd ht fun K hK => opsLB_opsLQ ops.toList 0 σ rfl (h K hK)

/-- an empty slice that is only read may be seen as it lies in memory -/
theorem Holds.empty {f : FuncId} {sz : Nat} {pre post : List AV} {objs objs' : List Ob} {res : AV} (h : ∀ a cap, Holds P f (pre ++ .lit (.slice a 0 cap) :: post) objs res objs') : Holds P f (pre ++ .tree sz [] :: post) objs res objs' := by
  refine ⟨(h none 0).1, fun γ hsz hs => ?_⟩
  have hslot := hs.slots pre.length
  have he : (pre ++ .tree sz [] :: post).getD pre.length .undef = .tree sz [] := by simp
  rw [show (⟨fun k => (pre ++ AV.tree sz [] :: post).getD k .undef, objs⟩ : St).env pre.length = .tree sz [] from he] at hslot
  obtain ⟨a, cap, hcv⟩ : ∃ a cap, γ.tmps.getD pre.length Go.undef = .slice a 0 cap := by
    generalize γ.tmps.getD pre.length Go.undef = cv at hslot
    have := hslot.tree_inv
    cases this with
    | nil _ cap a => exact ⟨a, cap, rfl⟩
    | tree _ _ b o cap f => exact ⟨_, cap, rfl⟩
  refine (h a cap).2 γ (by simpa using hsz) ⟨fun k => ?_, hs.obs, hs.inj, hs.nz, hs.zlt, hs.gl⟩
  by_cases hk : k = pre.length
  · subst hk
    show RelV objs γ.w γ.Z γ.blk ((pre ++ .lit (.slice a 0 cap) :: post).getD pre.length .undef) _
    rw [show (pre ++ AV.lit (.slice a 0 cap) :: post).getD pre.length .undef = .lit (.slice a 0 cap) by simp, hcv]
    exact .lit _
  · have := hs.slots k
    show RelV objs γ.w γ.Z γ.blk ((pre ++ .lit (.slice a 0 cap) :: post).getD k .undef) _
    have e : (pre ++ AV.lit (.slice a 0 cap) :: post).getD k .undef = (pre ++ AV.tree sz [] :: post).getD k .undef := by
      simp only [List.getD_eq_getElem?_getD]
      congr 1
      rcases Nat.lt_or_ge k pre.length with h' | h'
      · rw [List.getElem?_append_left h', List.getElem?_append_left h']
      · rw [List.getElem?_append_right h', List.getElem?_append_right h']
        obtain ⟨j, hj⟩ : ∃ j, k - pre.length = j + 1 := ⟨k - pre.length - 1, by omega⟩
        rw [hj]; simp
    rw [e]; exact this

/-- .. and as a slice that is only read again -/
theorem Turns.emptyV (d sz : Nat) {a : Option Addr} {cap : Nat} (h : σ.env d = .lit (.slice a 0 cap)) : Turns n0 σ ⟨upd σ.env d (.tree sz []), σ.objs⟩ := by
  intro os γ0 γ _ hs hf
  refine ⟨γ, rfl, rfl, ⟨fun k => ?_, hs.obs, hs.inj, hs.nz, hs.zlt, hs.gl⟩, hf⟩
  show RelV σ.objs γ.w γ.Z γ.blk (upd σ.env d (.tree sz []) k) _
  by_cases hk : k = d
  · subst hk
    have := hs.slots k
    rw [h] at this
    rw [upd_same, this.lit_inv]
    exact .frz _ _ (.nil sz cap a)
  · rw [upd, if_neg hk]; exact hs.slots k

end Go.Am
end
