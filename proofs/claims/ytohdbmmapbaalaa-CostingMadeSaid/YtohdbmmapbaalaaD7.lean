import Derived.Test.YtohdbmmapbaalaaC8
import Derived.Test.YtohdbmmapbaalaaD2
import Derived.Test.YtohdbmmapbaalaaD5
import Derived.Test.YtohdbmmapbaalaaD6
set_option linter.unusedVariables false
set_option linter.unusedSimpArgs false
open Go Go.Am Go.Proofs
namespace T
theorem mb0 : MB mdl0 := ⟨by decide, by simp [mdl0], by simp [mdl0], by decide, by simp [mdl0], by decide, by simp [mdl0]⟩
theorem restrict_mb {m : Mdl} (hb : MB m) (keep : List Bool) : MB (restrictT m keep).1 := by
  unfold restrictT
  split
  · exact mb0
  split
  · exact mb0
  unfold restrictV
  have hf : ∀ {α : Type} (p : α → Bool) (l : List α), (l.filter p).length ≤ l.length := fun p l => List.length_filter_le p l
  refine ⟨by simpa using hb.cls, fun l hl => ?_, fun l hl o ho => ?_, ?_, fun p hp => ?_, ?_, fun c hc => ?_⟩
  · simp only [List.mem_map] at hl
    obtain ⟨l', h', rfl⟩ := hl
    simpa using hb.opt l' h'
  · simp only [List.mem_map] at hl
    obtain ⟨l', h', rfl⟩ := hl
    simp only [List.mem_map] at ho
    obtain ⟨o', ho', rfl⟩ := ho
    have := hb.ch l' h' o' ho'
    have := hf (fun c : Int × Int => kpt keep c.1) o'.ch
    simp only [keepO]; omega
  · have := hf (fun p : Pr => kpt keep p.rule) m.prs
    have := hb.prs
    dsimp only; omega
  · exact hb.tab p (List.mem_filter.1 hp).1
  · have := hf (fun p : Ct => kpt keep p.rule) m.cts
    have := hb.cts
    dsimp only; omega
  · exact hb.lds c (List.mem_filter.1 hc).1
theorem costT_len (m : Mdl) (plan : List Int) : (costT m plan).2.1.length < 9223372036854775808 := by
  unfold costT
  split
  · simp
  split
  · simp
  rename_i h _
  have hm := valid_iff.1 (Decidable.not_not.1 h)
  have := (rulesV_ok hm plan).1
  have := hm.rul
  unfold costsV
  dsimp only; omega
set_option maxRecDepth 10000 in
set_option maxHeartbeats 8000000 in
theorem exact_ok (m : Mdl) (plan : List Int) (keep : List Bool) (hb : MB m) (hpl : plan.length < 9223372036854775808) (hk : keep.length < 9223372036854775808) :
    Holds Try.prog 5 [.agg (eMdl m), .tree 1 (ints plan), .tree 1 (bools keep)] [] (.lit (.bool true)) [] := by
  have h1 := cost_ok m plan hb hpl
  have h2 := refCost_ok m plan hb hpl
  have h3 := restrict_ok m keep hb hk
  have h4 := refRestrict_ok m keep hb hk
  have hs := same_ok (costT m plan).2.1 (costT m plan).2.1 (costT_len m plan)
  rw [decide_eq_true rfl] at hs
  have hsm := sameM_ok _ (restrict_mb hb keep)
  generalize costT m plan = ct at *
  generalize restrictT m keep = rt at *
  obtain ⟨n, a, e⟩ := ct
  obtain ⟨x, g⟩ := rt
  dsimp only at *
  refine Holds.of_body' (fn := Try.f5) 69 0 [.tmp 6] Try.func5 rfl rfl rfl rfl rfl (by simp) ?_
  repeat' (first | ((first | ((first | refine rk ?_ | refine rke ?_ | refine rd ?_ | refine rde ?_ | refine rb ?_ | refine rbe ?_ | refine ra ?_ | refine rae ?_); intro K hK) | with_reducible (first | refine opsL_go ?_ | refine planW_go ?_ | refine opsLQ_go ?_ | refine opsLA_go ?_ | refine opsLB_go ?_)); simp (disch := omega) only [Bc, tys, ↓Pc, Sc, Rc, ↓reduceIte, reduceCtorEq, Nat.reduceEqDiff, Nat.reduceBEq, Nat.reduceAdd, Nat.reduceLT, Nat.reduceLeDiff, Nat.reduceMul, Int.reduceNeg, Int.reduceLT, Int.reduceLE, Int.reduceToNat, beq_self_eq_true]) | (first | refine callK_pure (h1) rfl rfl ?_ | refine callQ_pure (h1) rfl rfl ?_) | (first | refine callK_pure (h2) rfl rfl ?_ | refine callQ_pure (h2) rfl rfl ?_) | (first | refine callK_pure (h3) rfl rfl ?_ | refine callQ_pure (h3) rfl rfl ?_) | (first | refine callK_pure (h4) rfl rfl ?_ | refine callQ_pure (h4) rfl rfl ?_) | (first | refine callK_pure (awake_ok) rfl rfl ?_ | refine callQ_pure (awake_ok) rfl rfl ?_) | (first | refine callK_pure (hs) rfl rfl ?_ | refine callQ_pure (hs) rfl rfl ?_) | (first | refine callK_pure (hsm) rfl rfl ?_ | refine callQ_pure (hsm) rfl rfl ?_) | (refine hK _ ?_; clear hK K) | ((first | refine guardK_split (fun hb' => ?_) (fun hb' => ?_) | refine guardM_split (fun hb' => ?_) (fun hb' => ?_)) <;> (have hb := hb'; (try simp only [DEc, reduceCtorEq] at hb); simp (disch := omega) only [Bc, tys, ↓Pc, Sc, Rc, ↓reduceIte, reduceCtorEq, Nat.reduceEqDiff, Nat.reduceBEq, Nat.reduceAdd, Nat.reduceLT, Nat.reduceLeDiff, Nat.reduceMul, Int.reduceNeg, Int.reduceLT, Int.reduceLE, Int.reduceToNat, beq_self_eq_true, hb']; clear hb')) | (refine Wc (fun ht => ?_) (fun ht => ?_) <;> (try simp only [DEc, reduceCtorEq] at ht)) | refine W_skip ?_ | refine W_exit ?_ | refine W_ret ?_ | refine W_label ?_ | (refine Wb ?_; intro Qb hnb hxb heb) | (refine Wk ?_; intro Q hn he) | ((first | refine hn _ ?_ | refine he _ _ rfl ?_); clear hn he; try clear Q) | ((first | refine hnb _ ?_ | refine hxb _ ?_ | refine heb _ _ rfl ?_); clear hnb hxb heb; try clear Qb) | (refine hel _ _ rfl ?_; clear hnl hel; try clear Ql) | (simp only [retQ, resW, retV, List.length_nil, LKc, Lc, tys, Rc, ↓reduceIte, Nat.reduceEqDiff, Nat.reduceBEq]) | with_reducible refine And.intro ?_ ?_ | omega | with_reducible rfl)
  all_goals first | exact RetOK_pure' rfl rfl | skip
end T

