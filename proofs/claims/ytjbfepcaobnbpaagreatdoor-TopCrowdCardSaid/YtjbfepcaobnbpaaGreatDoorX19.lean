import Derived.Test.YtjbfepcaobnbpaaGreatDoorX18
import Derived.Test.YtjbfepcaobnbpaaGreatDoorX16
import Derived.KernelRfl
set_option linter.unusedVariables false
set_option linter.unusedSimpArgs false
set_option linter.unnecessarySimpa false
set_option linter.unusedSectionVars false
section
/- THE VALUES OF THE RUNS -/
open Go Go.Am
namespace Go.Am.T
abbrev I (n : Int) : AV := .lit (.int .i64 n)
abbrev J (n : Nat) : AV := .lit (.int .i64 (Int.ofNat n))
abbrev nS : AV := .lit (.slice none 0 0)
noncomputable abbrev S (l : List UInt8) : AV := .lit (.string (mkB l))
noncomputable def regV (n c : Nat) : AV := .agg [I 1, J n, I 480, I 45, I 2, I 1, nS, .tree 5 [[S [82], S [66], I 9, nS, nS]], nS, nS, nS, .tree 9 ((List.range c).map fun i => [S [99, UInt8.ofNat (49 + i)], S [65], S [76], I 1, .tree 1 [[I 1]], I 5, nS, nS, nS]), nS, nS]
end Go.Am.T
namespace Go.Am
theorem beqAL_eq : ∀ {l m : List AV}, beqAL l m = true → l = m
  | [], m, h => m_nil_eq h
  | a :: l, m, h => m_cons_eq (fun _ hb => beqAV_eq hb) (fun _ ht => beqAL_eq ht) h
/-- what is only read, left out of a result -/
noncomputable def undT (v : AV) : AV := tupK v (fun cs => .tup (cs.map fun c => ifX (flat c) c .undef)) v
theorem undT_rel {os : List Ob} {w : World} {Z : Nat → Prop} {blk : Blk} {v : AV} {cv : Value} (h : RelV os w Z blk v cv) : RelV os w Z blk (undT v) cv := by
  cases v with
  | tup cs =>
    obtain ⟨cvs, rfl, h1, h2⟩ := h.tup_inv
    refine .tup _ _ (by simpa using h1) fun j x hj => ?_
    simp only [List.getElem?_map, Option.map_eq_some_iff] at hj
    obtain ⟨y, hy, rfl⟩ := hj
    cases hf : flat y with
    | true => exact h2 j y hy
    | false => exact .undef _
  | _ => exact h
theorem Holds.undT {P : Program} {f : Nat} {args : List AV} {v : AV} (h : Holds P f args [] v []) : Holds P f args [] (Go.Am.undT v) [] := by
  refine h.turn2 ?_
  intro os γ0 γ _ hs hf
  refine ⟨γ, rfl, rfl, ⟨fun k => ?_, hs.obs, hs.inj, hs.nz, hs.zlt, hs.gl⟩, hf⟩
  cases k with
  | zero => exact undT_rel (hs.slots 0)
  | succ k => exact .undef _
end Go.Am
namespace Go.Am.T
/-- the model of a crowd -/
noncomputable def plc (s : Nat) : AV := .agg [I 1, I 0, J s, I 1, I 0]
noncomputable def tblV (n : Nat) : AV := .tree 1 ((List.range n).flatMap fun s => (List.range n).map fun t => [I (ifX (Nat.beq s t) 1099511627776 0)])
noncomputable def mdlV (n c : Nat) : AV := .agg [.tree 1 (List.replicate c [.tree 6 ((List.range n).map fun s => [I 1, I 0, J s, I 1, I 0, nS])]), .tree 4 ((List.range c).flatMap fun i => ((List.range c).filter fun k => Nat.blt i k).map fun k => [J i, J k, I 0, tblV n]), nS, I 2]
noncomputable def prfV (n c : Nat) : AV := .agg [.tree 5 [[I (-1), nS, nS, .tree 1 ((List.range c).map fun i => [J i]), .tree 1 ((List.range n).map fun o => [.tree 2 ((List.range c).map fun i => [J i, J o])])]]]
noncomputable def plnV (n c : Nat) : AV := .tree 1 ((List.range c).map fun i => [J (i % n)])

/-- the entries of the tables -/
def hint (args : List AV) (k : Int → Int → Nat → Nat → Option AV) : Option AV :=
  match args with
  | [.lit (.int _ i), .lit (.int _ j), .agg [_, _, .lit (.int _ (.ofNat s)), _, _], .agg [_, _, .lit (.int _ (.ofNat t)), _, _]] => k i j s t
  | _ => none
noncomputable def g152 (args : List AV) : Option AV := hint args fun i j s t => gd (Nat.blt s 5) (gd (Nat.blt t 5) (gd (beqAL args [I i, I j, plc s, plc t]) (some (I (ifX (Nat.beq s t) 1099511627776 0)))))
noncomputable def tabC : Tab := fun f => ifX (Nat.beq f 152) (some g152) none
end Go.Am.T
end
section
/- THE TABLE OF THE PAIRS -/
open Go Go.Am
namespace Go.Am.T
open Go.Proofs
noncomputable def isV (r : Option AV) (v : AV) : Bool := @Option.rec AV (fun _ => Bool) false (fun a => beqAV a v) r
theorem isV_eq {r : Option AV} {v : AV} (h : isV r v = true) : r = some v := by
  cases r with
  | none => cases h
  | some a => rw [beqAV_eq (show beqAV a v = true from h)]
noncomputable def r152 (i k : Int) (s t : Nat) : Bool := isV (frun TE noO noS 152 [I i, I k, plc s, plc t]) (I (ifX (Nat.beq s t) 1099511627776 0))
attribute [irreducible] r152
theorem all152 (i k : Int) : ((List.range 5).all fun s => (List.range 5).all fun t => r152 i k s t) = true := by kernel_rfl
theorem f152 (i k : Int) {s t : Nat} (hs : s < 5) (ht : t < 5) : Fact Tryz.prog 152 [I i, I k, plc s, plc t] (I (ifX (Nat.beq s t) 1099511627776 0)) := by
  have h0 := all152 i k
  rw [List.all_eq_true] at h0
  have h1 := h0 s (by simpa using hs)
  rw [List.all_eq_true] at h1
  have h2 := h1 t (by simpa using ht)
  unfold r152 at h2
  exact frun_fact noO_ok noS_ok (isV_eq h2) rfl rfl
theorem tabC_ok : TabOK Tryz.prog tabC := by
  intro f g hg args v hv
  unfold tabC at hg
  cases hf : Nat.beq f 152 with
  | false => rw [hf] at hg; cases hg
  | true =>
    rw [hf] at hg
    have hf : f = 152 := beq_nat hf
    subst hf
    have hg : some g152 = some g := hg
    simp only [Option.some.injEq] at hg
    subst hg
    unfold g152 hint at hv
    split at hv
    · obtain ⟨h1, hv1⟩ := gd_some hv
      obtain ⟨h2, hv2⟩ := gd_some hv1
      obtain ⟨h3, hv3⟩ := gd_some hv2
      simp only [Option.some.injEq] at hv3
      subst hv3
      rw [beqAL_eq h3]
      exact f152 _ _ (by simpa using h1) (by simpa using h2)
    · cases hv
end Go.Am.T
end
section
/- ONE CASE: what the calls of TopCrowd answer -/
open Go Go.Am
namespace Go.Am.T
open Go.Proofs
noncomputable abbrev tT : AV := .lit (.bool true)
noncomputable def cosV (n c : Nat) : AV := I (ifX (Nat.beq n c) 0 1099511627776)
noncomputable def notV (n c : Nat) : AV := .lit (.bool (ifX (Nat.beq n c) false true))
noncomputable def ansV (n c : Nat) : AV := .tup [cosV n c, notV n c]
noncomputable def bilV (n c : Nat) : AV := .tup [cosV n c, .undef, I 0]
noncomputable def comV (n c : Nat) : AV := .tup [mdlV n c, I 0]
noncomputable def nodV (n c : Nat) : AV := .agg [I (-1), nS, nS, .tree 1 ((List.range c).map fun i => [J i]), .tree 1 ((List.range n).map fun o => [.tree 2 ((List.range c).map fun i => [J i, J o])])]
noncomputable def lefV (n c : Nat) : AV := .tree 1 (List.replicate c [.tree 1 (List.replicate n [tT])])
/-- a table of one call -/
noncomputable def tab1 (f : Nat) (args : List AV) (v : AV) : Tab := fun g => ifX (Nat.beq g f) (some fun ar => gd (beqAL ar args) (some v)) none
theorem tab1_ok {f : Nat} {args : List AV} {v : AV} (h : Fact Tryz.prog f args v) : TabOK Tryz.prog (tab1 f args v) := by
  intro g gg hg ar w hw
  unfold tab1 at hg
  cases hf : Nat.beq g f with
  | false => rw [hf] at hg; cases hg
  | true =>
    rw [hf] at hg
    have hf : g = f := beq_nat hf
    subst hf
    have hg : some (fun ar => gd (beqAL ar args) (some v)) = some gg := hg
    simp only [Option.some.injEq] at hg
    subst hg
    obtain ⟨h3, hv3⟩ := gd_some hw
    simp only [Option.some.injEq] at hv3
    subst hv3
    rw [beqAL_eq h3]
    exact h
noncomputable def t22 (n c : Nat) : CallX := tabB (tab1 22 [mdlV n c] (I 0))
noncomputable def t20 (n c : Nat) : CallX := tabB (tab1 20 [mdlV n c, nodV n c, lefV n c] (notV n c))
structure Case (n c : Nat) : Prop where
  f5 : Fact Tryz.prog 5 [J n, J c] (regV n c)
  f6 : Fact Tryz.prog 6 [regV n c, nS] (comV n c)
  f8 : Fact Tryz.prog 8 [mdlV n c, prfV n c] (ansV n c)
  f9 : Fact Tryz.prog 9 [mdlV n c, plnV n c] (bilV n c)
noncomputable def run9 (n c : Nat) : Option AV := opt (frun TE (t22 n c) noS 9 [mdlV n c, plnV n c]) fun v => some (undT v)
/-- nothing of the caller's own -/
noncomputable def nos (n c : Nat) : Bool := noRefL [J n, J c, regV n c, nS, comV n c, mdlV n c, prfV n c, ansV n c, plnV n c, bilV n c, nodV n c, lefV n c, notV n c, I 0]
theorem noL {l : List AV} (h : noRefL l = true) (m : List AV) (hm : ∀ x ∈ m, x ∈ l) : noRefL m = true := by
  induction m with
  | nil => rfl
  | cons a m ih =>
    have h1 : noRef a = true := by
      obtain ⟨j, hj⟩ := List.getElem?_of_mem (hm a (by simp))
      exact noRefL_get h hj
    have h2 := ih fun x hx => hm x (by simp [hx])
    simp [noRefL, h1, h2]
theorem Case.of {n c : Nat} (h0 : nos n c = true) (h22 : frun TE noO noS 22 [mdlV n c] = some (I 0)) (h20 : frun TE noO noS 20 [mdlV n c, nodV n c, lefV n c] = some (notV n c))
    (h5 : frun TE noO noS 5 [J n, J c] = some (regV n c)) (h6 : frun TE (tabA tabC) noS 6 [regV n c, nS] = some (comV n c))
    (h8 : frun TE (orC (t22 n c) (t20 n c)) noS 8 [mdlV n c, prfV n c] = some (ansV n c)) (h9 : run9 n c = some (bilV n c)) : Case n c := by
  have L := fun m hm => noL h0 m hm
  have V : ∀ x, x ∈ [J n, J c, regV n c, nS, comV n c, mdlV n c, prfV n c, ansV n c, plnV n c, bilV n c, nodV n c, lefV n c, notV n c, I 0] → noRef x = true := fun x hx => by
    obtain ⟨j, hj⟩ := List.getElem?_of_mem hx
    exact noRefL_get h0 hj
  have F22 : Fact Tryz.prog 22 [mdlV n c] (I 0) := frun_fact noO_ok noS_ok h22 (L _ (by simp)) rfl
  have F20 : Fact Tryz.prog 20 [mdlV n c, nodV n c, lefV n c] (notV n c) := frun_fact noO_ok noS_ok h20 (L _ (by simp)) rfl
  have O22 : CallOK Tryz.prog (t22 n c) := tabB_ok (tab1_ok F22)
  have O20 : CallOK Tryz.prog (t20 n c) := tabB_ok (tab1_ok F20)
  refine ⟨frun_fact noO_ok noS_ok h5 (L _ (by simp)) (V _ (by simp)), frun_fact (tabA_ok tabC_ok) noS_ok h6 (L _ (by simp)) (V _ (by simp)), frun_fact (orC_ok O22 O20) noS_ok h8 (L _ (by simp)) (V _ (by simp)), ?_⟩
  obtain ⟨v, k1, k2⟩ := opt_some h9
  simp only [Option.some.injEq] at k2
  refine ⟨?_, L _ (by simp), V _ (by simp)⟩
  rw [← k2]
  exact (frun_ok O22 noS_ok k1).undT
end Go.Am.T
end
