import Derived.Test.YtjbfepcaobnbpaaGreatDoorX17
import Derived.Tactics
import Derived.Tactics2
import Derived.Defers
import Derived.Recover
set_option linter.unusedVariables false
set_option linter.unusedSimpArgs false
set_option linter.unnecessarySimpa false
set_option linter.unusedSectionVars false
section
/- THE FUNCTION WITH A DEFERRED CALL: parser.read -/
open Go Go.Am
namespace Go.Am.T
open Go.Proofs

theorem ta_nil (w : World) : (Instr.typeAssert .nilIface 20 174 true).run Tryz.prog w = .ok (.tuple #[.agg #[.int .i64 0, .int .i64 0], .bool false]) w := by
  have h1 : Tryz.prog.underlying 174 = _ := Tryz.underlying174
  simp [Instr.typeAssert, go_sem]

/-- what the deferred function does where there is no panic -/
theorem catch_idle (p0 p1 p2 : Value) (w : World) :
    CallsD Tryz.prog 166 #[p0, p1, p2] .returning w fun e u' w' => e = .returned (.tuple #[]) ∧ u' = .returning ∧ ∃ c t, w'.heap = w.heap.push (.cells c t (0, 0)) ∧ w'.os = w.os ∧ w'.tape = w.tape ∧ w'.output = w.output ∧ w'.drawn = w.drawn := by
  refine callsD_of_wpS Tryz.func166 rfl fun c₀ cs hu => ?_
  have h0 : (#[p0, p1, p2] ++ Array.replicate (Tryz.f166.ntmps - (#[p0, p1, p2] : Array Value).size) Go.undef) = #[p0, p1, p2, Go.undef, Go.undef, Go.undef, Go.undef, Go.undef, Go.undef, Go.undef, Go.undef, Go.undef] := rfl
  rw [h0]
  apply wpS_seq
  apply wpS_region
  simp [wpOpsS, go_sem, recoverD, hu, Exit.thenS, ta_nil]
  apply wpS_seq
  apply wpS_region
  simp [wpOpsS, go_sem, Exit.thenS]
  refine wpS_cond (t := false) (by simp [Act.eval]) ?_
  simp only [Bool.false_eq_true, if_false]
  refine wpS_of_wp (wp_skip ?_)
  refine ⟨rfl, .returning, ?_, .tuple #[], by simp [results], rfl, rfl, ⟨_, _, rfl⟩, rfl, rfl, rfl, rfl⟩
  cases c₀
  simp_all

noncomputable def rdP : Array Oper × Array Oper × Code :=
  match Tryz.f68.body with
  | some (.seq (.region _ a _) (.seq (.region _ b _) c)) => (a, b, c)
  | _ => (#[], #[], .skip)
noncomputable def rd0 : Array Oper := rdP.1
noncomputable def rd1 : Array Oper := rdP.2.1
noncomputable def rdT : Code := rdP.2.2
theorem rd_body : Tryz.f68.body = some (.seq (.region 0 rd0 false) (.seq (.region 1 rd1 false) rdT)) := by kernel_rfl

noncomputable def rdo1 : Oper := rd1[0]!
noncomputable def rdo2 : Oper := rd1[1]!
theorem rd1_eq : rd1 = #[rdo1, rdo2] := by kernel_rfl
theorem rdo2_op : rdo2.op = .defer { callee := .value (.tmp 5), args := #[], argTypes := #[] } := by kernel_rfl
theorem rdo2_dst : rdo2.dst = none := by kernel_rfl
theorem rdo2_g : rdo2.guard = none := by kernel_rfl
theorem rd0_ok : dstOK 13 rd0 = true := by kernel_rfl
theorem rd1_ok : dstOK 13 rd1 = true := by kernel_rfl
theorem rd_len : Tryz.f68.results.toList.length = 3 := by kernel_rfl

/-- the world has grown by what nobody knows -/
theorem sim_grow {σ : St} {γ : Cx} (h : Sim σ γ) {w' : World} (hold : ∀ k, k < γ.w.heap.size → w'.heap[k]? = γ.w.heap[k]?) (hsz : γ.w.heap.size ≤ w'.heap.size) : Sim σ { γ with w := w' } := by
  have hR : ∀ v cv, RelV σ.objs γ.w γ.Z γ.blk v cv → RelV σ.objs w' γ.Z γ.blk v cv := fun v cv hv =>
    hv.mono (fun z hzz => ⟨hzz, hold z (h.zlt z hzz)⟩) (fun i o hi => by
      by_cases hgo : o = .gone
      · subst hgo; exact .inl hi
      · exact .inr ⟨rfl, o, hi, Ob.like_refl hgo⟩)
  refine ⟨fun k => hR _ _ (h.slots k), fun i o hi => ?_, h.inj, h.nz, fun b hb => Nat.lt_of_lt_of_le (h.zlt b hb) hsz, fun g => hR _ _ (h.gl g)⟩
  by_cases hgo : o = .gone
  · subst hgo; trivial
  · exact (h.obs i o hi).mono hR rfl fun z oo c hb => hold z (h.blt ⟨o, hi, hgo⟩ hb)

noncomputable def capX {β : Type} (v : AV) (k : Option β) : Option β :=
  fnK v (fun g cs => gd (Nat.beq g 166) (gd (Nat.beq (lenX cs 0) 3) k)) (fun _ _ => none) none
theorem capX_some {β : Type} {v : AV} {k : Option β} {b : β} (h : capX v k = some b) : (∃ a1 a2 a3, v = .fn 166 [a1, a2, a3]) ∧ k = some b := by
  unfold capX at h
  cases v with
  | fn g cs =>
    obtain ⟨h1, h⟩ := gd_some (show gd (Nat.beq g 166) _ = some b from h)
    obtain ⟨h2, h⟩ := gd_some h
    rw [lenX_eq] at h2
    have h2 := beq_nat h2
    have h1 : g = 166 := beq_nat h1
    match cs, h2 with
    | [a1, a2, a3], _ => exact ⟨⟨a1, a2, a3, by rw [h1]⟩, h⟩
  | _ => exact absurd h (by intro e; cases e)

noncomputable def one0 (l : List Oper) : List Oper := @List.rec Oper (fun _ => List Oper) [] (fun o _ _ => [o]) l
noncomputable def readX (call : CallX) (f : Nat) (args : List AV) (n : Nat) (h : E5) : Option VS :=
  gd (Nat.beq f 68) (gd (Nat.beq (lenX args 0) 1) (opt (opsX TE call rd0 rd0.toList (envX args 0 e3) n h) fun s0 => ysK s0 fun e1 n1 h1 =>
    opt (opsX TE call rd1 (one0 rd1.toList) e1 n1 h1) fun s1 => ysK s1 fun e2 n2 h2 =>
      capX (evX (.tmp 5) e2) (opt (execX rdT TE call 13 ⟨e2, n2, h2⟩) fun p => @Prod.rec Exit YS (fun _ => Option VS) (fun y s => exE y (opt (resX TE s Tryz.f68.results.toList) fun vs => ysK s fun _ n' h' => gd (Nat.ble n n') (some ⟨retX vs, n', h'⟩))) p)))

theorem readX_ok {call : CallX} (hc : CallOK P call) : CallOK P (readX call) := by
  intro f args n h r hr
  unfold readX at hr
  obtain ⟨hf, hr0⟩ := gd_some hr
  have hf : f = 68 := beq_nat hf
  subst hf
  obtain ⟨hl, hr1⟩ := gd_some hr0
  rw [lenX_eq] at hl
  have hl : args.length = 1 := by simpa using beq_nat hl
  obtain ⟨s0, q0, hr2⟩ := opt_some hr1
  rw [ysK_eq] at hr2
  obtain ⟨s1, q1, hr3⟩ := opt_some hr2
  rw [ysK_eq] at hr3
  obtain ⟨⟨c1, c2, c3, hcap⟩, hr4⟩ := capX_some hr3
  obtain ⟨⟨y, s⟩, q2, hr5⟩ := opt_some hr4
  have hyy : y = .normal ∨ y = .ret := by
    cases y <;> first | exact .inl rfl | exact .inr rfl | exact absurd hr5 (by intro e; cases e)
  have hr6 : (opt (resX TE s Tryz.f68.results.toList) fun vs => ysK s fun _ n' h' => gd (Nat.ble n n') (some (⟨retX vs, n', h'⟩ : VS))) = some r := by
    rcases hyy with rfl | rfl <;> exact hr5
  obtain ⟨vs, q3, hr7⟩ := opt_some hr6
  rw [ysK_eq] at hr7
  obtain ⟨q4, hr8⟩ := gd_some hr7
  simp only [Option.some.injEq] at hr8
  subst hr8
  have q4 := Nat.le_of_ble_eq_true q4
  refine ⟨⟨Tryz.f68, Tryz.func68, by kernel_rfl, by kernel_rfl⟩, ?_⟩
  intro γ hsz hs
  refine calls_of_wp_defers Tryz.func68 rd_body ?_
  have hN : Tryz.f68.ntmps = 13 := Tryz.ntmps68
  rw [hN]
  let tm := γ.tmps ++ Array.replicate (13 - γ.tmps.size) Go.undef
  let γ0 : Cx := { γ with D := [] }
  have hok : Okay 13 (obsA n h) γ0 ⟨fun k => args.getD k .undef, obsA n h⟩ { tmps := tm, defers := [] } γ.w := by
    refine ⟨rfl, by simp [tm]; omega, { γ with tmps := tm }, rfl, rfl, ⟨fun k => ?_, hs.obs, hs.inj, hs.nz, hs.zlt, hs.gl⟩, ((Fr.refl _ _).put _).setD⟩
    rcases Nat.lt_or_ge k args.length with hk | hk
    · have := hs.slots k
      have e : tm.getD k Go.undef = γ.tmps.getD k Go.undef := by
        simp only [tm, Array.getD_eq_getD_getElem?]
        rw [Array.getElem?_append_left (by omega)]
      show RelV _ _ _ _ _ (tm.getD k Go.undef)
      rw [e]; exact this
    · have e : args.getD k AV.undef = .undef := by simp [hk]
      show RelV _ _ _ _ (args.getD k .undef) _
      rw [e]; exact .undef _
  have hst : (⟨fun k => args.getD k .undef, obsA n h⟩ : St) = ⟨envA (envX args 0 e3), obsA n h⟩ := by
    have := envX_eq args 0 e3 _ (by omega) envA_e3
    rw [this]
    refine congrArg (fun f => (⟨f, obsA n h⟩ : St)) (funext fun k => ?_)
    by_cases hk : k < args.length
    · rw [if_pos ⟨Nat.zero_le _, by simpa using hk⟩]; rfl
    · rw [if_neg (by simp; omega)]
      rw [List.getD_eq_getElem?_getD, List.getElem?_eq_none (by omega)]; rfl
  rw [hst] at hok
  -- the first region
  have w0 := W_regionR (P := P) (N := 13) (n0 := (obsA n h).length) (id := 0) (Q := fun e σ => e = .normal ∧ σ = s0.st) rd0_ok (opsX_ok hc rd0.toList _ _ _ s0 q0) ⟨rfl, rfl⟩
  refine wp_seq (wp_mono (w0 (obsA n h) γ0 _ γ.w rfl hok) ?_)
  rintro e a1 w1 ⟨σ1, ⟨rfl, rfl⟩, hok1⟩
  -- the second: a function is made and deferred
  obtain ⟨o1, o2, hrd, hdef, hdst2, hg2⟩ : ∃ o1 o2, rd1 = #[o1, o2] ∧ o2.op = .defer { callee := .value (.tmp 5), args := #[], argTypes := #[] } ∧ o2.dst = none ∧ o2.guard = none := ⟨rdo1, rdo2, rd1_eq, rdo2_op, rdo2_dst, rdo2_g⟩
  refine wp_seq (wp_region ?_)
  have hq1 : Runs P 13 rd1 [o1] s0.st s1.st := by
    have := opsX_ok (N := 13) hc (one0 rd1.toList) _ _ _ s1 q1
    rw [hrd] at this ⊢
    exact this
  obtain ⟨σ2, hstep, hend⟩ := hq1
  have hend : s1.st = σ2 := hend
  subst hend
  have hi1 : rd1[0]? = some o1 := by rw [hrd]; rfl
  have hi2 : rd1[1]? = some o2 := by rw [hrd]; rfl
  have hsz2 : rd1.size = 2 := by rw [hrd]; rfl
  rw [hsz2]
  have hrg : List.range 2 = [0, 1] := by decide
  rw [hrg, wpOps_cons]
  refine gstep_wpOp (N := 13) (dstOK_spec rd1_ok) hi1 hstep hok1 fun a2 w2 hok2 => ?_
  rw [wpOps_cons]
  unfold wpOp
  simp only [hi2]
  have hw : Region.wanted o2 (yielded rd1 a2.tmps) = true := by simp [Region.wanted, hg2]
  rw [if_pos hw]
  left
  obtain ⟨hd2, hs2, γ2, rfl, ht2, hsim2, hfr2⟩ := hok2
  have hslot := hsim2.slots 5
  have e5 : s1.st.env 5 = .fn 166 [c1, c2, c3] := by
    have : s1.st.env 5 = evX (.tmp 5) s1.env := (evX_eq (.tmp 5) s1.env (obsA s1.n s1.ob)).symm
    rw [this]; exact hcap
  rw [e5] at hslot
  obtain ⟨cvs, hcv, hcs, hcr⟩ := hslot.fn_inv
  rw [ht2] at hcv
  have hr2 : (execOp a2.eval o2).run P γ2.w = .ok (.defer { target := .fn (.func 166) cvs, args := #[] }) γ2.w := by
    have hev : a2.eval (.tmp 5) = .func (.func 166) #[] cvs := hcv
    simp [execOp, hdef, resolve, hev, Deferred.ofValue]
  unfold Oper.wp
  rw [hr2, Oper.upon_defer]
  have hd2 : a2.defers = [] := hd2
  rw [hdst2, hd2]
  show wpOps P rd1 _ [] _ _
  let d : Deferred := { target := .fn (.func 166) cvs, args := #[] }
  let a3 : Act := { a2 with defers := [d] }
  have hok3 : Okay 13 (obsA n h) { γ with D := [d] } s1.st a3 γ2.w := ⟨rfl, hs2, γ2, rfl, ht2, hsim2, hfr2.unD.setD⟩
  -- the rest of the code
  have w3 := execX_ok (N := 13) (n0 := (obsA n h).length) hc rdT ⟨s1.env, s1.n, s1.ob⟩ s y q2 (fun e σ => e = y ∧ σ = s.st) ⟨rfl, rfl⟩
  have w4 := w3 (obsA n h) { γ with D := [d] } a3 γ2.w rfl hok3
  refine wp_mono w4 ?_
  rintro e4 a4 w4 ⟨σ4, ⟨rfl, rfl⟩, hd4, _, γ4, rfl, ht4, hsim4, hfr4⟩
  have hd4 : a4.defers = [d] := hd4
  have hpost : Leaves P Tryz.f68 a4.tmps (fun e w' => ∃ cv γ', e = .returned cv ∧ γ'.w = w' ∧ γ'.tmps = #[cv] ∧ Sim ⟨fun k => [retX vs].getD k .undef, obsA s.n s.ob⟩ γ' ∧ Fr (obsA n h) γ (obsA s.n s.ob) γ') a4.defers .returning γ4.w := by
    rw [hd4]
    refine ⟨by simp, .func 166, cvs, 166, cvs, rfl, ?_, ?_⟩
    · have : Tryz.prog.funcs[166]? = some Tryz.f166 := Tryz.func166
      have n1 : ¬ Tryz.f166.name = "runtime.NumGoroutine" := by
        have : (Tryz.f166.name == "runtime.NumGoroutine") = false := by kernel_rfl
        simpa using this
      have n2 : ¬ Tryz.f166.body = none := by
        intro e
        have : Tryz.f166.body.isSome = true := by kernel_rfl
        rw [e] at this; cases this
      simp [invoke, callFunc, this, n1, n2, d]
    · obtain ⟨p0, p1, p2, rfl⟩ : ∃ p0 p1 p2, cvs = #[p0, p1, p2] := by
        have : cvs.size = 3 := by simpa using hcs
        exact ⟨cvs[0], cvs[1], cvs[2], by
          apply Array.ext'
          apply List.ext_getElem
          · simpa using this
          · intro i h1 h2
            simp at h2
            match i, h2 with
            | 0, _ => rfl
            | 1, _ => rfl
            | 2, _ => rfl⟩
      refine (catch_idle p0 p1 p2 γ4.w).mono ?_
      rintro e5 u' w' ⟨rfl, rfl, cc, tt, hheap, h1, h2, h3, h4⟩
      have hold : ∀ k, k < γ4.w.heap.size → w'.heap[k]? = γ4.w.heap[k]? := fun k hk => by rw [hheap, Array.getElem?_push]; simp [Nat.ne_of_lt hk]
      have hsz5 : γ4.w.heap.size ≤ w'.heap.size := by rw [hheap]; simp
      have hsim5 : Sim s.st { γ4 with w := w' } := sim_grow hsim4 hold hsz5
      have hfr5 : Fr (obsA n h) γ (obsA s.n s.ob) { γ4 with w := w' } := by
        have hf := hfr4.unD
        exact { eos := h1.trans hf.eos, tape := h2.trans hf.tape, output := h3.trans hf.output, size := Nat.le_trans hf.size hsz5, keep := fun b hb hn => (hold b (Nat.lt_of_lt_of_le hb hf.size)).trans (hf.keep b hb hn), z0 := hf.z0, z1 := hf.z1, own := hf.own, len := hf.len, old := hf.old, drawn := by
                  show γ.w.drawn ≤ w'.drawn
                  rw [h4]; exact hf.drawn }
      have hres : resW s.st P Tryz.f68.results.toList fun us => us = vs := resX_ok q3 _ rfl
      obtain ⟨us, cus, k1, k2, k3, k4, k5⟩ := resW_sound hsim5 _ _ hres
      dsimp only at k2
      subst k1
      show Leaves P Tryz.f68 a4.tmps _ [] .returning w'
      have hm : (Tryz.f68.results.mapM fun (r : ResultVar) => match r with | .tmp t => (pure (a4.tmps.getD t Go.undef) : Sem Value) | .cell a t => do loadVar t (← asAddr (a4.tmps.getD a Go.undef))).run P w' = .ok cus.toArray w' := by
        rw [Array.mapM_eq_mapM_toList, Sem.run_map, ← ht4]
        exact (congrArg (fun r => Result.andThen r fun (a : List Value) w' => (.ok a.toArray w' : Result (Array Value))) k2).trans rfl
      have hrr : (results Tryz.f68 a4.tmps).run P w' = .ok (if h : cus.toArray.size = 1 then cus.toArray[0] else .tuple cus.toArray) w' := by
        unfold results
        rw [Sem.run_bind]
        exact congrArg (fun r => Result.andThen r fun (a : Array Value) w' => (pure (if h : a.size = 1 then a[0] else Value.tuple a) : Sem Value).run P w') hm
      have hl3 : us.length = 3 := by rw [k4]; exact rd_len
      have hl4 : cus.length = 3 := by omega
      refine ⟨.tuple cus.toArray, ?_, .tuple cus.toArray, { γ4 with w := w', tmps := #[.tuple cus.toArray] }, rfl, rfl, rfl, ?_, ⟨hfr5.eos, hfr5.tape, hfr5.output, hfr5.size, hfr5.keep, hfr5.z0, hfr5.z1, hfr5.own, hfr5.len, hfr5.old, hfr5.drawn⟩⟩
      · rw [hrr]
        have : ¬ cus.toArray.size = 1 := by simp; omega
        rw [dif_neg this]
      · refine ⟨fun k => ?_, hsim5.obs, hsim5.inj, hsim5.nz, hsim5.zlt, hsim5.gl⟩
        cases k with
        | zero =>
          show RelV _ _ _ _ (retX us) (.tuple cus.toArray)
          have e6 : retX us = .tup us := by
            match us, hl3 with
            | [_, _, _], _ => rfl
          rw [e6]
          refine .tup _ _ (by simpa using k3) fun j x hj => ?_
          have := k5 j x hj
          have this : RelV (obsA s.n s.ob) w' γ4.Z γ4.blk x (cus.getD j Go.undef) := this
          simpa [Array.getD_eq_getD_getElem?, List.getD_eq_getElem?_getD] using this
        | succ k => exact .undef _
  rcases hyy with rfl | rfl
  · exact hpost
  · exact hpost
end Go.Am.T
end
