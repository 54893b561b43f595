import Derived.Test.YtohdbmmapbaalaaAm21
namespace Go.Am
variable {P : Program} {N n0 : Nat} {σ : St} {Q : Exit → St → Prop}

theorem not_kept {sel : List Nat} {co : List Ob} {id : Nat} (h : id ∉ sel) : ¬ kept sel co id := by
  rintro ⟨j, hj, he, _⟩
  apply h
  rw [← he, List.getD_eq_getElem?_getD, List.getElem?_eq_getElem hj]
  exact List.getElem_mem hj

/-- the objects that are lent -/
def SelX (ρ : Nat → Nat) (os : List Ob) : List Nat → List Ob → Prop
  | [], [] => True
  | i :: sel, o :: co => os[i]? = some (renO ρ o) ∧ SelX ρ os sel co
  | _, _ => False

theorem SelX.spec {ρ : Nat → Nat} {os : List Ob} : ∀ {sel : List Nat} {co : List Ob}, SelX ρ os sel co → co.length = sel.length ∧ ∀ (j : Nat) o, co[j]? = some o → os[sel.getD j 0]? = some (renO ρ o)
  | [], [], _ => ⟨rfl, by simp⟩
  | i :: sel, o :: co, h => by
    obtain ⟨h1, h3⟩ := h
    obtain ⟨a, b⟩ := SelX.spec h3
    refine ⟨by simp [a], fun j o' hj => ?_⟩
    cases j with
    | zero => simp at hj; subst hj; simpa using h1
    | succ j => simpa using b j o' (by simpa using hj)

def ArgsR (R : AV → AV → Prop) : List AV → List AV → Prop
  | [], [] => True
  | c :: cs, d :: ds => R c d ∧ ArgsR R cs ds
  | _, _ => False

theorem ArgsR.spec {R : AV → AV → Prop} : ∀ {cs ds : List AV}, ArgsR R cs ds → cs.length = ds.length ∧ ∀ (j : Nat) c d, cs[j]? = some c → ds[j]? = some d → R c d
  | [], [], _ => ⟨rfl, by simp⟩
  | c :: cs, d :: ds, h => by
    obtain ⟨a, b⟩ := ArgsR.spec h.2
    refine ⟨by simp [a], fun j c' d' hc hd => ?_⟩
    cases j with
    | zero => simp at hc hd; subst hc; subst hd; exact h.1
    | succ j => exact b j c' d' (by simpa using hc) (by simpa using hd)

theorem ArgR.tup2 {kp : Nat → Prop} {ρ : Nat → Nat} {snap : Bool} {a b c d : AV} (h : ArgR σ kp ρ snap a c) (k : ArgR σ kp ρ snap b d) : ArgR σ kp ρ snap (.tup [a, b]) (.tup [c, d]) :=
  .tup _ _ rfl (ArgsR.spec (R := ArgR σ kp ρ snap) (cs := [a, b]) (ds := [c, d]) ⟨h, k, trivial⟩).2

/-- a call that is lent some objects -/
theorem callK_sel (sel : List Nat) {f : FuncId} {args cargs : List AV} {cobjs : List Ob} {dst : Option Tmp} {K : St → Prop} {res : AV} {cobjs' : List Ob} (h : Holds P f cargs cobjs res cobjs') (hnd : sel.Nodup)
    (ho : SelX (rho σ.objs.length sel) σ.objs sel cobjs) (ha : ArgsR (ArgR σ (· ∈ sel) (rho σ.objs.length sel) false) cargs args)
    (hK : K (({ σ with objs := mergeO σ.objs sel (cobjs'.map (renO (rho σ.objs.length sel))) } : St).put dst (ren (rho σ.objs.length sel) res))) : callK P f args dst K σ := by
  obtain ⟨h1, h2⟩ := ho.spec
  obtain ⟨h3, h4⟩ := ha.spec
  exact ⟨sel, false, cargs, cobjs, res, cobjs', h, ⟨hnd, h1, h2, h3, h4, by simp⟩, hK⟩

/-- the same, and slices of the caller's own are read -/
theorem callK_snap (sel : List Nat) {f : FuncId} {args cargs : List AV} {cobjs : List Ob} {dst : Option Tmp} {K : St → Prop} {res : AV} {cobjs' : List Ob} (h : Holds P f cargs cobjs res cobjs') (hnd : sel.Nodup)
    (ho : SelX (rho σ.objs.length sel) σ.objs sel cobjs) (ha : ArgsR (ArgR σ (· ∈ sel) (rho σ.objs.length sel) true) cargs args) (hf : flat res = true) (hfo : ∀ o ∈ cobjs', flatO o)
    (hK : K (({ σ with objs := mergeO σ.objs sel (cobjs'.map (renO (rho σ.objs.length sel))) } : St).put dst (ren (rho σ.objs.length sel) res))) : callK P f args dst K σ := by
  obtain ⟨h1, h2⟩ := ho.spec
  obtain ⟨h3, h4⟩ := ha.spec
  exact ⟨sel, true, cargs, cobjs, res, cobjs', h, ⟨hnd, h1, h2, h3, h4, fun _ => ⟨hf, hfo⟩⟩, hK⟩

theorem renO_var {ρ : Nat → Nat} (cs : List AV) : renO ρ (.var cs) = .var (cs.map (ren ρ)) := by simp only [renO]
theorem renO_gone' {ρ : Nat → Nat} : renO ρ .gone = .gone := by simp only [renO]

theorem range1 : List.range 1 = [0] := by decide
theorem range2 : List.range 2 = [0, 1] := by decide
theorem range3 : List.range 3 = [0, 1, 2] := by decide
theorem ints_take (xs : List Int) : (ints xs).take xs.length = ints xs := by rw [List.take_of_length_le (by simp [ints])]
theorem bools_take (xs : List Bool) : (bools xs).take xs.length = bools xs := by rw [List.take_of_length_le (by simp [bools])]
theorem intss_take (xs : List (List Int)) : (intss xs).take xs.length = intss xs := by rw [List.take_of_length_le (by simp [intss])]

/-- ways that meet at the head of what comes next -/
theorem join_here {y : Code} {Q0 Q1 : Exit → St → Prop} {G : Prop} (S0 : St) (hn : ∀ s, W P N n0 y Q0 s → Q1 .normal s) (hm : W P N n0 y Q0 S0) (h : (∀ s, Turns n0 s S0 → Q1 .normal s) → G) : G :=
  h fun s ht => hn s (W_turn ht hm)

end Go.Am
