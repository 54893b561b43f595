import Derived.Test.YtncfieaimmpapaaAm57
set_option linter.unusedVariables false
set_option linter.unusedSimpArgs false
namespace Go.Am
variable {P : Program} {N n0 : Nat} {σ : St} {Q : Exit → St → Prop}
theorem region_cc {K0 : St → Prop} (n m : Nat) {ops : Array Oper} (hd : dstOK N ops = true) (o o2 : Oper) (ho : ops[n]? = some o) (ho2 : ops[n + 1 + m]? = some o2)
    {os : List Ob} {γ0 : Cx} {a : Act} {w : World} {R : Exit → Act → World → Prop} (hok : Okay N os γ0 σ a w) (hnext : ∀ σ' a' w', K0 σ' → Okay N os γ0 σ' a' w' → R .normal a' w')
    (h : opsL P ops (ops.toList.take n) (callO P o (opsL P ops ((ops.toList.drop (n + 1)).take m) (callO P o2 (opsL P ops (ops.toList.drop (n + 1 + m + 1)) K0)))) σ) :
    wpOps P ops R (List.range ops.size) a w := by
  have hn' : n + 1 + m < ops.size := (Array.getElem?_eq_some_iff.1 ho2).1
  have e : List.range ops.size = List.range' 0 (ops.toList.take n).length ++ (n :: (List.range' (n + 1) ((ops.toList.drop (n + 1)).take m).length ++ ((n + 1 + m) :: List.range' (n + 1 + m + 1) (ops.toList.drop (n + 1 + m + 1)).length))) := by
    rw [List.range_eq_range', ← List.range'_succ]
    have h1 : ((ops.toList.drop (n + 1)).take m).length = m := by simp; omega
    have h2 : (ops.toList.take n).length = n := by simp; omega
    have h3 : (ops.toList.drop (n + 1 + m + 1)).length = ops.size - (n + 1 + m + 1) := by simp
    rw [h1, h2, h3]
    have a1 := List.range'_append (s := n + 1) (m := m) (n := ops.size - (n + 1 + m + 1) + 1) (step := 1)
    simp only [Nat.one_mul] at a1
    rw [a1, ← List.range'_succ]
    have a2 := List.range'_append (s := 0) (m := n) (n := m + (ops.size - (n + 1 + m + 1) + 1) + 1) (step := 1)
    simp only [Nat.zero_add, Nat.one_mul] at a2
    rw [a2]
    congr 1
    omega
  rw [e]
  refine wpOps_app _ a w ?_
  refine opsL_soundP (dstOK_spec hd) (K := callO P o (opsL P ops ((ops.toList.drop (n + 1)).take m) (callO P o2 (opsL P ops (ops.toList.drop (n + 1 + m + 1)) K0)))) (fun σ' a' w' hk hok' => ?_) (ops.toList.take n) 0 σ a w (fun k hk => ?_) h hok
  · show wpOps P ops _ _ a' w'
    rw [wpOps_cons]
    unfold wpOp
    simp only [ho]
    have hw : Region.wanted o (yielded ops a'.tmps) = true := by simp [Region.wanted, hk.1]
    rw [if_pos hw]
    left
    refine callO_sound hk hok' (dstOK_spec hd o (List.mem_of_getElem? (by simpa using ho))) (fun σ2 a2 w2 hk2 hok2 => ?_)
    refine wpOps_app _ a2 w2 ?_
    refine opsL_soundP (dstOK_spec hd) (K := callO P o2 (opsL P ops (ops.toList.drop (n + 1 + m + 1)) K0)) (fun σ' a' w' hk hok' => ?_) ((ops.toList.drop (n + 1)).take m) (n + 1) σ2 a2 w2 (fun k hk => ?_) hk2 hok2
    · show wpOps P ops _ _ a' w'
      rw [wpOps_cons]
      unfold wpOp
      simp only [ho2]
      have hw : Region.wanted o2 (yielded ops a'.tmps) = true := by simp [Region.wanted, hk.1]
      rw [if_pos hw]
      left
      refine callO_sound hk hok' (dstOK_spec hd o2 (List.mem_of_getElem? (by simpa using ho2))) (fun σ2 a2 w2 hk2 hok2 => ?_)
      refine opsL_soundP (dstOK_spec hd) (K := K0) (fun σ3 a3 w3 hk3 hok3 => hnext σ3 a3 w3 hk3 hok3) (ops.toList.drop (n + 1 + m + 1)) (n + 1 + m + 1) σ2 a2 w2 (fun k hk => ?_) hk2 hok2
      rw [List.getElem?_drop]
      simp
    · simp only [List.length_take, List.length_drop, Array.length_toList] at hk
      rw [List.getElem?_take_of_lt (by omega), List.getElem?_drop]
      simp
  · simp only [List.length_take, Array.length_toList] at hk
    rw [List.getElem?_take_of_lt (by omega)]
    simp
theorem W_region_cce (n m : Nat) {id : Nat} {ops : Array Oper} (hd : dstOK N ops = true) (o o2 : Oper) (ho : ops[n]? = some o) (ho2 : ops[n + 1 + m]? = some o2)
    (h : ∀ K : St → Prop, (∀ s, Q .normal s → K s) → opsL P ops (ops.toList.take n) (callO P o (opsL P ops ((ops.toList.drop (n + 1)).take m) (callO P o2 (opsL P ops (ops.toList.drop (n + 1 + m + 1)) K)))) σ) : W P N n0 (.region id ops false) Q σ := by
  intro os γ0 a w hn hok
  refine wp_region ?_
  exact region_cc n m hd o o2 ho ho2 hok (fun σ3 a3 w3 hk3 hok3 => ⟨σ3, hk3, hok3⟩) (h _ (fun _ h => h))
end Go.Am

