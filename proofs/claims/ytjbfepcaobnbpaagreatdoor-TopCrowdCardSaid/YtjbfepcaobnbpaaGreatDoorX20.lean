import Derived.Test.YtjbfepcaobnbpaaGreatDoorX19
import Derived.KernelRfl
set_option linter.unusedVariables false
set_option linter.unusedSimpArgs false
set_option linter.unnecessarySimpa false
set_option linter.unusedSectionVars false
section
/- Mod AND THE HEAD OF TopCrowd -/
open Go Go.Am
namespace Go.Am
variable {P : Program} {N n0 : Nat}
/-- the slots behind a run -/
noncomputable def outS (r : RX) : E3 := @Option.rec (Exit × YS) (fun _ => E3) e3 (fun p => p.2.env) r
noncomputable def outO (r : Option YS) : E3 := @Option.rec YS (fun _ => E3) e3 (fun s => s.env) r
theorem W_run {c d : Code} {T : Env P} {call : CallX} (hc : CallOK P call) {s s' : YS} {Q : Exit → St → Prop} (h : execX c T call N s = some (.normal, s')) (hd : W P N n0 d Q s'.st) : W P N n0 (.seq c d) Q s.st :=
  W_seq (execX_ok hc c s s' .normal h _ hd)
theorem Runs_app {ops : Array Oper} : ∀ {l m : List Oper} {σ τ υ : St}, Runs P N ops l σ τ → Runs P N ops m τ υ → Runs P N ops (l ++ m) σ υ
  | [], m, σ, τ, υ, h1, h2 => by
    have h1 : τ = σ := h1
    subst h1; exact h2
  | o :: l, m, σ, τ, υ, h1, h2 => by
    obtain ⟨σ1, g, h1⟩ := h1
    exact ⟨σ1, g, Runs_app h1 h2⟩
/-- three slots -/
noncomputable def env3 (i j k : Nat) (u v w : AV) : E3 := s3 k w (s3 j v (s3 i u e3))
theorem env3_turn {i j k : Nat} {u v w : AV} {os : List Ob} {e : E3} (hi : i < 512) (hj : j < 512) (hk : k < 512) (hu : envA e i = u) (hv : envA e j = v) (hw : envA e k = w) : Turns n0 ⟨envA e, os⟩ ⟨envA (env3 i j k u v w), os⟩ := by
  refine Turns.forget (σ := ⟨envA e, os⟩) fun t => ?_
  unfold env3
  rw [envA_s3 hk, envA_s3 hj, envA_s3 hi, envA_e3]
  unfold upd
  by_cases h1 : t = k
  · right; subst h1; simp [hw]
  · by_cases h2 : t = j
    · right; subst h2; simp [hv, h1]
    · by_cases h3 : t = i
      · right; subst h3; simp [hu, h1, h2]
      · left; simp [h1, h2, h3]
/-- the slots where a function starts -/
theorem start_st {args : List AV} (h : args.length ≤ 512) : (⟨fun k => args.getD k .undef, []⟩ : St) = (⟨envX args 0 e3, 0, e5⟩ : YS).st := by
  unfold YS.st
  have := envX_eq args 0 e3 _ (by simpa using h) envA_e3
  rw [this]
  have : obsA 0 e5 = [] := rfl
  rw [this]
  congr 1
  funext k
  by_cases hk : k < args.length
  · rw [if_pos ⟨Nat.zero_le _, by simpa using hk⟩]; rfl
  · rw [if_neg (by simp; omega)]
    rw [List.getD_eq_getElem?_getD, List.getElem?_eq_none (by omega)]; rfl
end Go.Am
namespace Go.Am.T
open Go.Proofs
noncomputable def mdP : Code × Code × Code × Code :=
  match Tryz.f4.body with
  | some (.seq a (.seq b (.seq c d))) => (a, b, c, d)
  | _ => (.skip, .skip, .skip, .skip)
theorem md_body : Tryz.f4.body = some (.seq mdP.1 (.seq mdP.2.1 (.seq mdP.2.2.1 mdP.2.2.2))) := by kernel_rfl
noncomputable def md0 (x m : Int) : E3 := envX [I x, I m] 0 e3
noncomputable def md1 (x m : Int) : E3 := outS (execX mdP.1 TE noO 16 ⟨md0 x m, 0, e5⟩)
noncomputable def md2 (x m : Int) : E3 := outS (execX mdP.2.1 TE noO 16 ⟨md1 x m, 0, e5⟩)
noncomputable def md3 (x m : Int) : E3 := outS (execX mdP.2.2.1 TE noO 16 ⟨md2 x m, 0, e5⟩)
theorem md_1a (x : Int) : execX mdP.1 TE noO 16 ⟨md0 x 5, 0, e5⟩ = some (.normal, ⟨md1 x 5, 0, e5⟩) := by kernel_rfl
theorem md_2a (x : Int) : execX mdP.2.1 TE noO 16 ⟨md1 x 5, 0, e5⟩ = some (.normal, ⟨md2 x 5, 0, e5⟩) := by kernel_rfl
theorem md_3a (x : Int) : execX mdP.2.2.1 TE noO 16 ⟨md2 x 5, 0, e5⟩ = some (.normal, ⟨md3 x 5, 0, e5⟩) := by kernel_rfl
theorem md_1b (x : Int) : execX mdP.1 TE noO 16 ⟨md0 x 3, 0, e5⟩ = some (.normal, ⟨md1 x 3, 0, e5⟩) := by kernel_rfl
theorem md_2b (x : Int) : execX mdP.2.1 TE noO 16 ⟨md1 x 3, 0, e5⟩ = some (.normal, ⟨md2 x 3, 0, e5⟩) := by kernel_rfl
theorem md_3b (x : Int) : execX mdP.2.2.1 TE noO 16 ⟨md2 x 3, 0, e5⟩ = some (.normal, ⟨md3 x 3, 0, e5⟩) := by kernel_rfl
theorem md_sa (x : Int) : envA (md3 x 5) 0 = I (Int.tmod x 5) := by kernel_rfl
theorem md_ta (x : Int) : envA (md3 x 5) 1 = I 5 := by kernel_rfl
theorem md_ua (x : Int) : envA (md3 x 5) 4 = I 0 := by kernel_rfl
theorem md_sb (x : Int) : envA (md3 x 3) 0 = I (Int.tmod x 3) := by kernel_rfl
theorem md_tb (x : Int) : envA (md3 x 3) 1 = I 3 := by kernel_rfl
theorem md_ub (x : Int) : envA (md3 x 3) 4 = I 0 := by kernel_rfl
/-- the rest from a residue -/
noncomputable def mdR (r m : Int) : Option AV := opt (execX mdP.2.2.2 TE noO 16 ⟨env3 0 1 4 (I r) (I m) (I 0), 0, e5⟩) fun p => @Prod.rec Exit YS (fun _ => Option AV) (fun y s => exE y (opt (resX TE s Tryz.f4.results.toList) fun vs => ysK s fun _ n' _ => gd (Nat.beq n' 0) (some (retX vs)))) p
theorem mdR_ok {r m : Int} {v : AV} (h : mdR r m = some v) (hv : noRef v = true) : W Tryz.prog 16 0 mdP.2.2.2 (retQ Tryz.prog 0 Tryz.f4.results.toList v []) (⟨env3 0 1 4 (I r) (I m) (I 0), 0, e5⟩ : YS).st := by
  unfold mdR at h
  obtain ⟨⟨y, s⟩, h1, hr⟩ := opt_some h
  have hyy : y = .normal ∨ y = .ret := by
    cases y <;> first | exact .inl rfl | exact .inr rfl | exact absurd hr (by intro e; cases e)
  have hr2 : (opt (resX TE s Tryz.f4.results.toList) fun vs => ysK s fun _ n' _ => gd (Nat.beq n' 0) (some (retX vs))) = some v := by
    rcases hyy with rfl | rfl <;> exact hr
  obtain ⟨vs, h2, hr3⟩ := opt_some hr2
  rw [ysK_eq] at hr3
  obtain ⟨h3, hr4⟩ := gd_some hr3
  simp only [Option.some.injEq] at hr4
  have fin : resW s.st Tryz.prog Tryz.f4.results.toList fun us => RetOK 0 s.st (retV us) v [] := by
    refine resX_ok h2 _ ?_
    rw [← hr4, retX_eq]
    rw [← hr4, retX_eq] at hv
    exact RetOK_pure hv
  refine execX_ok noO_ok _ _ _ _ h1 _ ?_
  rcases hyy with rfl | rfl
  · exact fin
  · exact fin
theorem mdR_5_0 : mdR (-4) 5 = some (I 1) := by kernel_rfl
theorem mdR_5_1 : mdR (-3) 5 = some (I 2) := by kernel_rfl
theorem mdR_5_2 : mdR (-2) 5 = some (I 3) := by kernel_rfl
theorem mdR_5_3 : mdR (-1) 5 = some (I 4) := by kernel_rfl
theorem mdR_5_4 : mdR (0) 5 = some (I 0) := by kernel_rfl
theorem mdR_5_5 : mdR (1) 5 = some (I 1) := by kernel_rfl
theorem mdR_5_6 : mdR (2) 5 = some (I 2) := by kernel_rfl
theorem mdR_5_7 : mdR (3) 5 = some (I 3) := by kernel_rfl
theorem mdR_5_8 : mdR (4) 5 = some (I 4) := by kernel_rfl
theorem mdR_a (r : Int) (h1 : -5 < r) (h2 : r < 5) : mdR r 5 = some (I (r % 5)) := by
  have : r = -4 ∨ r = -3 ∨ r = -2 ∨ r = -1 ∨ r = 0 ∨ r = 1 ∨ r = 2 ∨ r = 3 ∨ r = 4 := by omega
  rcases this with rfl | rfl | rfl | rfl | rfl | rfl | rfl | rfl | rfl
  · exact mdR_5_0
  · exact mdR_5_1
  · exact mdR_5_2
  · exact mdR_5_3
  · exact mdR_5_4
  · exact mdR_5_5
  · exact mdR_5_6
  · exact mdR_5_7
  · exact mdR_5_8
theorem mdR_3_0 : mdR (-2) 3 = some (I 1) := by kernel_rfl
theorem mdR_3_1 : mdR (-1) 3 = some (I 2) := by kernel_rfl
theorem mdR_3_2 : mdR (0) 3 = some (I 0) := by kernel_rfl
theorem mdR_3_3 : mdR (1) 3 = some (I 1) := by kernel_rfl
theorem mdR_3_4 : mdR (2) 3 = some (I 2) := by kernel_rfl
theorem mdR_b (r : Int) (h1 : -3 < r) (h2 : r < 3) : mdR r 3 = some (I (r % 3)) := by
  have : r = -2 ∨ r = -1 ∨ r = 0 ∨ r = 1 ∨ r = 2 := by omega
  rcases this with rfl | rfl | rfl | rfl | rfl
  · exact mdR_3_0
  · exact mdR_3_1
  · exact mdR_3_2
  · exact mdR_3_3
  · exact mdR_3_4
theorem tmod5 (x : Int) : -5 < Int.tmod x 5 ∧ Int.tmod x 5 < 5 ∧ Int.tmod x 5 % 5 = x % 5 := by
  have h := Int.mul_tdiv_add_tmod x 5
  have h1 := Int.lt_tmod_of_pos x (b := 5) (by omega)
  have h2 := Int.tmod_lt_of_pos x (b := 5) (by omega)
  exact ⟨h1, h2, by omega⟩
theorem tmod3 (x : Int) : -3 < Int.tmod x 3 ∧ Int.tmod x 3 < 3 ∧ Int.tmod x 3 % 3 = x % 3 := by
  have h := Int.mul_tdiv_add_tmod x 3
  have h1 := Int.lt_tmod_of_pos x (b := 3) (by omega)
  have h2 := Int.tmod_lt_of_pos x (b := 3) (by omega)
  exact ⟨h1, h2, by omega⟩
theorem mod5 (x : Int) : Fact Tryz.prog 4 [I x, I 5] (I (x % 5)) := by
  refine ⟨?_, rfl, rfl⟩
  refine Holds.of_body' 16 0 Tryz.f4.results.toList Tryz.func4 md_body (by kernel_rfl) Tryz.ntmps4 rfl rfl (by simp) ?_
  rw [start_st (by simp)]
  refine W_run noO_ok (md_1a x) (W_run noO_ok (md_2a x) (W_run noO_ok (md_3a x) ?_))
  refine W_turn (env3_turn (i := 0) (j := 1) (k := 4) (by omega) (by omega) (by omega) (md_sa x) (md_ta x) (md_ua x)) ?_
  obtain ⟨hb1, hb2, e⟩ := tmod5 x
  have h := mdR_ok (mdR_a _ hb1 hb2) rfl
  rw [e] at h
  exact h
theorem mod3 (x : Int) : Fact Tryz.prog 4 [I x, I 3] (I (x % 3)) := by
  refine ⟨?_, rfl, rfl⟩
  refine Holds.of_body' 16 0 Tryz.f4.results.toList Tryz.func4 md_body (by kernel_rfl) Tryz.ntmps4 rfl rfl (by simp) ?_
  rw [start_st (by simp)]
  refine W_run noO_ok (md_1b x) (W_run noO_ok (md_2b x) (W_run noO_ok (md_3b x) ?_))
  refine W_turn (env3_turn (i := 0) (j := 1) (k := 4) (by omega) (by omega) (by omega) (md_sb x) (md_tb x) (md_ub x)) ?_
  obtain ⟨hb1, hb2, e⟩ := tmod3 x
  have h := mdR_ok (mdR_b _ hb1 hb2) rfl
  rw [e] at h
  exact h
end Go.Am.T
end
