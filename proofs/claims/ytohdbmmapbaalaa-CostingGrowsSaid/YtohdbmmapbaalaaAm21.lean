import Derived.Test.YtohdbmmapbaalaaAm20
namespace Go.Am
variable {P : Program} {N n0 : Nat} {σ : St} {Q : Exit → St → Prop}

theorem RetOK_sel (sel : List Nat) (snap : Bool) {v res : AV} {objs' : List Ob} (hnd : sel.Nodup) (ho : SelO (rho σ.objs.length sel) σ.objs sel objs') (hn : n0 ≤ sel.length) (hid : ∀ i, i < n0 → sel.getD i 0 = i)
    (h : ArgR σ (kept sel objs') (rho σ.objs.length sel) snap res v) : RetOK n0 σ v res objs' := by
  obtain ⟨h1, h2, h3⟩ := ho.spec
  exact ⟨sel, snap, hnd, h1, h2, h3, hn, hid, h⟩

theorem RetOK_all {e : Nat → AV} {os : List Ob} {v res : AV} {objs' : List Ob} (ho : os = objs') (hn : n0 ≤ objs'.length) (h : v = res) : RetOK n0 ⟨e, os⟩ v res objs' := by
  subst ho; subst h
  let σ : St := ⟨e, os⟩
  show RetOK n0 σ v v σ.objs
  have hn : n0 ≤ σ.objs.length := hn
  refine ⟨List.range σ.objs.length, false, List.nodup_range, by simp, fun j o hj => .inr ?_, by simp, by simpa using hn, fun i hi => ?_, ?_⟩
  · have hlt := (List.getElem?_eq_some_iff.1 hj).1
    rw [rho_id, renO_id]
    simpa [List.getD_eq_getElem?_getD, List.getElem?_range hlt] using hj
  · have : i < σ.objs.length := by omega
    simp [List.getD_eq_getElem?_getD, List.getElem?_range this]
  · exact .eq (by rw [rho_id, ren_id])

end Go.Am
