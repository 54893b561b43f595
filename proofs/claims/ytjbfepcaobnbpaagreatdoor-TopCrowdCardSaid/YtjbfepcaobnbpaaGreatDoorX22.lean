import Derived.Test.YtjbfepcaobnbpaaGreatDoorX20
import Derived.Test.YtjbfepcaobnbpaaGreatDoorX21
set_option linter.unusedVariables false
set_option linter.unusedSimpArgs false
set_option linter.unnecessarySimpa false
set_option linter.unusedSectionVars false
section
/- TopCrowd -/
open Go Go.Am
namespace Go.Am.T
open Go.Proofs
noncomputable def tcP : Array Oper × Array Oper × Array Oper × Code :=
  match Tryz.f3.body with
  | some (.seq (.region _ a _) (.seq (.region _ b _) (.seq (.region _ c _) d))) => (a, b, c, d)
  | _ => (#[], #[], #[], .skip)
noncomputable def tc0 : Array Oper := tcP.1
noncomputable def tc1 : Array Oper := tcP.2.1
noncomputable def tc2 : Array Oper := tcP.2.2.1
noncomputable def tcR : Code := tcP.2.2.2
theorem tc_body : Tryz.f3.body = some (.seq (.region 0 tc0 false) (.seq (.region 1 tc1 false) (.seq (.region 2 tc2 false) tcR))) := by kernel_rfl
theorem tc0_d : dstOK 143 tc0 = true := by kernel_rfl
theorem tc1_d : dstOK 143 tc1 = true := by kernel_rfl
theorem tc2_d : dstOK 143 tc2 = true := by kernel_rfl

/-- Mod, answered -/
noncomputable def orM : CallX := fun f args n h => gd (Nat.beq f 4) (match args with
  | [.lit (.int .i64 x), .lit (.int .i64 m)] => ifX (ieqX m 5) (some ⟨I (x % 5), n, h⟩) (ifX (ieqX m 3) (some ⟨I (x % 3), n, h⟩) none)
  | _ => none)
theorem orM_ok : CallOK Tryz.prog orM := by
  intro f args n h r hr
  unfold orM at hr
  obtain ⟨h1, hr1⟩ := gd_some hr
  have h1 : f = 4 := beq_nat h1
  subst h1
  split at hr1
  · rename_i x m
    rcases ifX_some hr1 with ⟨k1, k2⟩ | ⟨_, k2⟩
    · rw [ieqX_eq] at k1
      have k1 := of_decide_eq_true k1
      subst k1
      obtain ⟨e1, e2, e3⟩ := some_VS k2
      rw [e1, e2, e3]
      exact (mod5 x).at n h
    · rcases ifX_some k2 with ⟨k1, k3⟩ | ⟨_, k3⟩
      · rw [ieqX_eq] at k1
        have k1 := of_decide_eq_true k1
        subst k1
        obtain ⟨e1, e2, e3⟩ := some_VS k3
        rw [e1, e2, e3]
        exact (mod3 x).at n h
      · cases k3
  · cases hr1
/-- Mod, a constant -/
noncomputable def orK (r : Int) : CallX := fun _ _ n h => some ⟨I r, n, h⟩

noncomputable def ea0 (a b : Int) : E3 := envX [I a, I b] 0 e3
noncomputable def ea1 (a b : Int) : E3 := outO (opsX TE noO tc0 tc0.toList (ea0 a b) 0 e5)
noncomputable def ea2 (a b : Int) : E3 := outO (opsX TE orM tc1 (tc1.toList.take 2) (ea1 a b) 0 e5)
noncomputable def eb2 (r a b : Int) : E3 := outO (opsX TE (orK r) tc1 (tc1.toList.take 2) (ea1 a b) 0 e5)
noncomputable def eb3 (r a b : Int) : E3 := outO (opsX TE noO tc1 (tc1.toList.drop 2) (eb2 r a b) 0 e5)
noncomputable def eb4 (r a b : Int) : E3 := outO (opsX TE orM tc2 tc2.toList (eb3 r a b) 0 e5)
theorem sA (a b : Int) : opsX TE noO tc0 tc0.toList (ea0 a b) 0 e5 = some ⟨ea1 a b, 0, e5⟩ := by kernel_rfl
theorem sB (a b : Int) : opsX TE orM tc1 (tc1.toList.take 2) (ea1 a b) 0 e5 = some ⟨ea2 a b, 0, e5⟩ := by kernel_rfl
theorem sC (a b : Int) : ea2 a b = eb2 (a % 5) a b := by kernel_rfl
/-- what the head leaves -/
structure Head (r a b : Int) : Prop where
  s3 : opsX TE noO tc1 (tc1.toList.drop 2) (eb2 r a b) 0 e5 = some ⟨eb3 r a b, 0, e5⟩
  s4 : opsX TE orM tc2 tc2.toList (eb3 r a b) 0 e5 = some ⟨eb4 r a b, 0, e5⟩
  v4 : envA (eb4 r a b) 4 = .lit (.bool false)
  v5 : envA (eb4 r a b) 5 = I (r + 1)
  v6 : envA (eb4 r a b) 6 = I (b % 3)
theorem h3_0 (a b : Int) : opsX TE noO tc1 (tc1.toList.drop 2) (eb2 0 a b) 0 e5 = some ⟨eb3 0 a b, 0, e5⟩ := by kernel_rfl
theorem h4_0 (a b : Int) : opsX TE orM tc2 tc2.toList (eb3 0 a b) 0 e5 = some ⟨eb4 0 a b, 0, e5⟩ := by kernel_rfl
theorem u4_0 (a b : Int) : envA (eb4 0 a b) 4 = .lit (.bool false) := by kernel_rfl
theorem u5_0 (a b : Int) : envA (eb4 0 a b) 5 = I (0 + 1) := by kernel_rfl
theorem u6_0 (a b : Int) : envA (eb4 0 a b) 6 = I (b % 3) := by kernel_rfl
theorem head_0 (a b : Int) : Head 0 a b := ⟨h3_0 a b, h4_0 a b, u4_0 a b, u5_0 a b, u6_0 a b⟩
theorem h3_1 (a b : Int) : opsX TE noO tc1 (tc1.toList.drop 2) (eb2 1 a b) 0 e5 = some ⟨eb3 1 a b, 0, e5⟩ := by kernel_rfl
theorem h4_1 (a b : Int) : opsX TE orM tc2 tc2.toList (eb3 1 a b) 0 e5 = some ⟨eb4 1 a b, 0, e5⟩ := by kernel_rfl
theorem u4_1 (a b : Int) : envA (eb4 1 a b) 4 = .lit (.bool false) := by kernel_rfl
theorem u5_1 (a b : Int) : envA (eb4 1 a b) 5 = I (1 + 1) := by kernel_rfl
theorem u6_1 (a b : Int) : envA (eb4 1 a b) 6 = I (b % 3) := by kernel_rfl
theorem head_1 (a b : Int) : Head 1 a b := ⟨h3_1 a b, h4_1 a b, u4_1 a b, u5_1 a b, u6_1 a b⟩
theorem h3_2 (a b : Int) : opsX TE noO tc1 (tc1.toList.drop 2) (eb2 2 a b) 0 e5 = some ⟨eb3 2 a b, 0, e5⟩ := by kernel_rfl
theorem h4_2 (a b : Int) : opsX TE orM tc2 tc2.toList (eb3 2 a b) 0 e5 = some ⟨eb4 2 a b, 0, e5⟩ := by kernel_rfl
theorem u4_2 (a b : Int) : envA (eb4 2 a b) 4 = .lit (.bool false) := by kernel_rfl
theorem u5_2 (a b : Int) : envA (eb4 2 a b) 5 = I (2 + 1) := by kernel_rfl
theorem u6_2 (a b : Int) : envA (eb4 2 a b) 6 = I (b % 3) := by kernel_rfl
theorem head_2 (a b : Int) : Head 2 a b := ⟨h3_2 a b, h4_2 a b, u4_2 a b, u5_2 a b, u6_2 a b⟩
theorem h3_3 (a b : Int) : opsX TE noO tc1 (tc1.toList.drop 2) (eb2 3 a b) 0 e5 = some ⟨eb3 3 a b, 0, e5⟩ := by kernel_rfl
theorem h4_3 (a b : Int) : opsX TE orM tc2 tc2.toList (eb3 3 a b) 0 e5 = some ⟨eb4 3 a b, 0, e5⟩ := by kernel_rfl
theorem u4_3 (a b : Int) : envA (eb4 3 a b) 4 = .lit (.bool false) := by kernel_rfl
theorem u5_3 (a b : Int) : envA (eb4 3 a b) 5 = I (3 + 1) := by kernel_rfl
theorem u6_3 (a b : Int) : envA (eb4 3 a b) 6 = I (b % 3) := by kernel_rfl
theorem head_3 (a b : Int) : Head 3 a b := ⟨h3_3 a b, h4_3 a b, u4_3 a b, u5_3 a b, u6_3 a b⟩
theorem h3_4 (a b : Int) : opsX TE noO tc1 (tc1.toList.drop 2) (eb2 4 a b) 0 e5 = some ⟨eb3 4 a b, 0, e5⟩ := by kernel_rfl
theorem h4_4 (a b : Int) : opsX TE orM tc2 tc2.toList (eb3 4 a b) 0 e5 = some ⟨eb4 4 a b, 0, e5⟩ := by kernel_rfl
theorem u4_4 (a b : Int) : envA (eb4 4 a b) 4 = .lit (.bool false) := by kernel_rfl
theorem u5_4 (a b : Int) : envA (eb4 4 a b) 5 = I (4 + 1) := by kernel_rfl
theorem u6_4 (a b : Int) : envA (eb4 4 a b) 6 = I (b % 3) := by kernel_rfl
theorem head_4 (a b : Int) : Head 4 a b := ⟨h3_4 a b, h4_4 a b, u4_4 a b, u5_4 a b, u6_4 a b⟩

/-- the calls of the rest -/
noncomputable def calC (n c : Nat) : CallX := orC (tabA (tab1 5 [J n, J c] (regV n c))) (orC (tabA (tab1 6 [regV n c, nS] (comV n c))) (orC (tabA (tab1 7 [] tT)) (orC (tabB (tab1 8 [mdlV n c, prfV n c] (ansV n c))) (tabB (tab1 9 [mdlV n c, plnV n c] (bilV n c))))))
theorem calC_ok {n c : Nat} (h : Case n c) : CallOK Tryz.prog (calC n c) :=
  orC_ok (tabA_ok (tab1_ok h.f5)) (orC_ok (tabA_ok (tab1_ok h.f6)) (orC_ok (tabA_ok (tab1_ok awake_ok)) (orC_ok (tabB_ok (tab1_ok h.f8)) (tabB_ok (tab1_ok h.f9)))))
noncomputable def resP (p : Exit × YS) (rs : List ResultVar) : Option AV := @Prod.rec Exit YS (fun _ => Option AV) (fun y s => exE y (opt (resX TE s rs) fun vs => some (retX vs))) p
/-- the rest -/
noncomputable def endR (n c k : Nat) : Option AV := opt (execX tcR TE (calC n c) 143 ⟨env3 4 5 6 (.lit (.bool false)) (J n) (J k), 0, e5⟩) fun p => resP p Tryz.f3.results.toList
theorem endR_ok {n c k : Nat} (hc : Case n c) (h : endR n c k = some tT) : W Tryz.prog 143 0 tcR (retQ Tryz.prog 0 Tryz.f3.results.toList tT []) ⟨envA (env3 4 5 6 (.lit (.bool false)) (J n) (J k)), obsA 0 e5⟩ := by
  obtain ⟨⟨y, s⟩, h1, hr⟩ := opt_some h
  have hyy : y = .normal ∨ y = .ret := by
    cases y <;> first | exact .inl rfl | exact .inr rfl | exact absurd hr (by intro e; cases e)
  have hr2 : (opt (resX TE s Tryz.f3.results.toList) fun vs => some (retX vs)) = some tT := by
    rcases hyy with rfl | rfl <;> exact hr
  obtain ⟨vs, h2, hr3⟩ := opt_some hr2
  simp only [Option.some.injEq] at hr3
  have fin : resW s.st Tryz.prog Tryz.f3.results.toList fun us => RetOK 0 s.st (retV us) tT [] := by
    refine resX_ok h2 _ ?_
    rw [← retX_eq, hr3]
    exact RetOK_pure rfl
  have fin2 : retQ Tryz.prog 0 Tryz.f3.results.toList tT [] y s.st := by
    rcases hyy with rfl | rfl
    · exact fin
    · exact fin
  exact execX_ok (calC_ok hc) _ _ _ _ h1 (retQ Tryz.prog 0 Tryz.f3.results.toList tT []) (N := 143) (n0 := 0) fin2
/-- TopCrowd answers true -/
theorem top_of {a b : Int} {r n c k : Nat} (ha : a % 5 = r) (hb : b % 3 = k) (hn : n = r + 1) (H : Head r a b) (hc : Case n c) (h : endR n c k = some tT) : Holds Tryz.prog 3 [I a, I b] [] tT [] := by
  refine Holds.of_body' 143 0 Tryz.f3.results.toList Tryz.func3 tc_body (by kernel_rfl) Tryz.ntmps3 rfl rfl (by simp) ?_
  rw [start_st (by simp)]
  have q0 : Runs Tryz.prog 143 tc0 tc0.toList (⟨ea0 a b, 0, e5⟩ : YS).st (⟨ea1 a b, 0, e5⟩ : YS).st := opsX_ok noO_ok _ _ _ _ _ (sA a b)
  have q1 : Runs Tryz.prog 143 tc1 (tc1.toList.take 2) (⟨ea1 a b, 0, e5⟩ : YS).st (⟨ea2 a b, 0, e5⟩ : YS).st := opsX_ok orM_ok _ _ _ _ _ (sB a b)
  rw [sC a b, ha] at q1
  have q2 : Runs Tryz.prog 143 tc1 (tc1.toList.drop 2) (⟨eb2 r a b, 0, e5⟩ : YS).st (⟨eb3 r a b, 0, e5⟩ : YS).st := opsX_ok noO_ok _ _ _ _ _ H.s3
  have q3 : Runs Tryz.prog 143 tc1 tc1.toList (⟨ea1 a b, 0, e5⟩ : YS).st (⟨eb3 r a b, 0, e5⟩ : YS).st := by
    have := Runs_app q1 q2
    rwa [List.take_append_drop] at this
  have q4 : Runs Tryz.prog 143 tc2 tc2.toList (⟨eb3 r a b, 0, e5⟩ : YS).st (⟨eb4 r a b, 0, e5⟩ : YS).st := opsX_ok orM_ok _ _ _ _ _ H.s4
  refine W_seq (W_regionR tc0_d q0 ?_)
  refine W_seq (W_regionR tc1_d q3 ?_)
  refine W_seq (W_regionR tc2_d q4 ?_)
  refine W_turn (env3_turn (i := 4) (j := 5) (k := 6) (by omega) (by omega) (by omega) H.v4 H.v5 H.v6) ?_
  rw [hb]
  have e : ((r : Int) + 1) = Int.ofNat n := by subst hn; rfl
  rw [e]
  exact endR_ok hc h
end Go.Am.T
end
