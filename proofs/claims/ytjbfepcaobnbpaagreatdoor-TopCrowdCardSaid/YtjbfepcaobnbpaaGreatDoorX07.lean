import Derived.Test.YtjbfepcaobnbpaaGreatDoorX05
import Derived.WalkKit
import Derived.ProofKit
import Derived.OpenShut
import Derived.JoinedCond
import Derived.Carry
import Derived.Test.YtjbfepcaobnbpaaGreatDoorX06
set_option linter.unusedVariables false
set_option linter.unusedSimpArgs false
set_option linter.unnecessarySimpa false
set_option linter.unusedSectionVars false
section
namespace Go.Am
open Go.ChangeShapes Go.WideShapes Go.ChangeAt Go.RowKit
variable {P : Program} {H : Type} {enc : TypeId × Value → H}

/-! ### From a contract on abstract values to a call of the model -/

def startZ (W : World) : Nat → Prop := fun b => b < W.heap.size

/-- what is left behind: true; below the heap's old size nothing has turned -/
structure Quiet (W W' : World) : Prop where
  os : W'.os = W.os
  tape : W'.tape = W.tape
  output : W'.output = W.output
  size : W.heap.size ≤ W'.heap.size
  block : ∀ b, b < W.heap.size → W'.heap[b]? = W.heap[b]?

theorem Quiet.below {W W' : World} (h : Quiet W W') : Below W.heap.size W W' := ⟨h.os, h.tape, h.output, h.size, h.block⟩

/-- the package variables that are only read hold what is said of them -/
def GlobOK (W : World) : Prop := ∀ g cs, globT.lookup g = some cs → g < W.heap.size ∧ ∀ j x, cs[j]? = some x → W.cell? ⟨g, 0 + j, none⟩ = some x
theorem GlobOK.rel {W : World} (h : GlobOK W) {blk : Blk} (g : Nat) : RelV [] W (startZ W) blk (globA g) (.pointer (some ⟨g, 0, none⟩)) := by
  unfold globA
  cases hl : globT.lookup g with
  | none => exact .undef _
  | some cs =>
    obtain ⟨h1, h2⟩ := h g cs hl
    refine .taddr _ g 0 (fun j => (cs[j]?).getD Go.undef) h1 (fun j x hx => ?_) (fun j x hx => ?_)
    all_goals
      rw [List.getElem?_map, Option.map_eq_some_iff] at hx
      obtain ⟨y, hy, rfl⟩ := hx
      rw [hy]
    · exact h2 j y hy
    · exact .lit y

theorem call_true {f : FuncId} {avs : List AV} {W : World} {args : Array Value} {r : Value} (h : Holds P f avs [] (.lit r) []) (hl : args.size = avs.length) (ht : ∀ (j : Nat) v, avs[j]? = some v → TreeR W (startZ W) v (args.getD j Go.undef)) (hg : GlobOK W) :
    Calls P f args W fun e W' => e = .returned r ∧ Quiet W W' := by
  let γ : Cx := { w := W, tmps := args, Z := startZ W, blk := fun _ => none }
  have hs : Sim ⟨fun k => avs.getD k .undef, []⟩ γ := by
    refine ⟨fun k => ?_, fun i o ho => by simp at ho, fun i j b o c o' c' hi => ?_, fun b ⟨i, o, c, hi, _⟩ => ?_, fun b hb => hb, fun g => hg.rel g⟩
    · show RelV [] W (startZ W) _ (avs.getD k .undef) (args.getD k Go.undef)
      cases hk : avs[k]? with
      | none => rw [List.getD_eq_getElem?_getD, hk]; exact .undef _
      | some v => rw [List.getD_eq_getElem?_getD, hk]; exact .frz _ _ (ht k v hk)
    · obtain ⟨o, ho, _⟩ := hi; simp at ho
    · obtain ⟨o, ho, _⟩ := hi; simp at ho
  refine (h.2 γ hl hs).mono ?_
  rintro e w' ⟨cv, γ', rfl, rfl, htm, hs', hf⟩
  have h0 := hs'.slots 0
  rw [htm] at h0
  have e0 : cv = r := by
    have := h0.lit_inv
    simpa using this
  subst e0
  refine ⟨rfl, hf.eos, hf.tape, hf.output, hf.size, fun b hb => hf.keep b hb (fun ⟨i, o, c, hi, _⟩ => ?_)⟩
  obtain ⟨o, ho, _⟩ := hi; simp at ho

theorem trodAll_stays (hl : laidOutB P = true) {W W' : World} (hq : Quiet W W') {sp : Nat → Bool} : ∀ {ts : List TypeId} {vs : List Value} {ds : List (DataW H)} {ps : List MemPlace}, (∀ t ∈ ts, P.readableRec t = true ∧ t < P.types.size) →
    DataW.TrodAll enc P W 0 (fun _ => true) true ts vs ds ps → (∀ p ∈ ps, p.block < W.heap.size) → (∀ p ∈ ps, sp p.block = true) → DataW.TrodAll enc P W' 0 sp true ts vs ds ps
  | [], vs, ds, ps, _, h, _, _ => by
    cases vs <;> cases ds <;> first | exact h | exact h.elim
  | t :: ts, [], ds, ps, _, h, _, _ => by cases ds <;> exact h.elim
  | t :: ts, v :: vs, [], ps, _, h, _, _ => h.elim
  | t :: ts, v :: vs, d :: ds, ps, ht, ⟨p, q, h1, h2, e⟩, hlt, hsp => by
    subst e
    obtain ⟨a, b⟩ := ht t (by simp)
    exact ⟨p, q, WideElems.Trod_stays hl a b h1 (fun x hx => hq.below.same (hlt x (by simp [hx]))) (fun x hx => hsp x (by simp [hx])),
      trodAll_stays hl hq (fun t' ht' => ht t' (by simp [ht'])) h2 (fun x hx => hlt x (by simp [hx])) (fun x hx => hsp x (by simp [hx])), rfl⟩

theorem Quiet.keptBut {W W' : World} (h : Quiet W W') (may : MemPlace → Prop) : W.keptBut W' may := by
  refine ⟨h.os, h.output, fun i hi => ?_⟩
  rw [h.block i hi]
  cases W.heap[i]? with
  | none => rfl
  | some o => cases o with
    | cells c t fr => exact ⟨rfl, rfl, rfl, fun _ _ => rfl⟩
    | map es clock => exact .inr ⟨rfl, rfl⟩
    | _ => rfl

theorem Quiet.frozen {W W' : World} (h : Quiet W W') (a : Addr) (ha : a.block < W.heap.size) : W'.frozen? a = W.frozen? a := by
  simp [World.frozen?, h.block _ ha]

/-- THE STATEMENT OF A LAW: it answers true, and its arguments read as they did -/
theorem post_true {f : Func} {s : ChangeSpec} {apart fresh handsOn again : Bool} {W W' : World} {args : Array Value} {ds gs : List (DataW H)} {before : List MemPlace} (hl : laidOutB P = true)
    (hW : DataW.Whole enc P f.params.toList s.vars apart W args.toList ds gs before) (hv : s.vars = []) (hts : (f.params.toList.all fun t => P.readableRec t && decide (t < P.types.size)) = true)
    (hq : Quiet W W') {t : TypeId} (hr : f.resultTypes = #[t]) (hb : P.underlying t = some .bool) (hs1 : (s.fn H (ds ++ gs)).results = [.lit (.bool true)]) (hs2 : (s.fn H (ds ++ gs)).args = ds) (hs3 : (s.fn H (ds ++ gs)).vars = []) :
    s.post enc P f apart fresh handsOn again W args (.bool true) W' := by
  have hlt := hW.lt
  have hW0 := hW
  obtain ⟨p, q, hA, hV, rfl, hfz, hnd⟩ := hW
  rw [hv] at hV
  obtain ⟨rfl, rfl⟩ := trodVars_none hV
  rw [List.append_nil] at hlt hfz hnd hW0
  have hres : ∀ (b : Nat) (sp : Nat → Bool) (hd : Bool), DataW.TrodAll enc P W' b sp hd f.resultTypes.toList ((Value.bool true).resultList f.resultTypes.size) [.lit (.bool true)] [] := fun b sp hd => by
    rw [hr]
    exact trodAll_mk1 (shut_bool hb true)
  have hargs : ∀ sp : Nat → Bool, (∀ x ∈ p, sp x.block = true) → DataW.TrodAll enc P W' 0 sp true f.params.toList args.toList ds p := fun sp hsp =>
    trodAll_stays hl hq (fun t ht => by have := List.all_eq_true.1 hts t ht; simpa using this) hA (fun x hx => hlt x hx) hsp
  have hold : ∀ x ∈ p, (fun b => decide (b < W.heap.size)) x.block = true := fun x hx => by simpa using hlt x hx
  refine ⟨ds, [], p, [], p, [], hW0, ?_, ?_, ?_, hq.keptBut _, fun _ => ⟨?_, ?_⟩⟩
  · rw [hs1]; exact hres _ _ _
  · rw [hs2]; exact hargs _ hold
  · rw [hs3, hv]; exact rfl
  · intro j t' r hj hr'
    rw [hr] at hj hr'
    match j, hj, hr' with
    | 0, hj, hr' =>
      simp [Value.resultList] at hj hr'
      subst hj; subst hr'
      exact okWide_bool_mk hb true
  · refine ⟨.lit (.bool true) :: ds, [], p, ⟨[] ++ p, [], trodAll_append (hargs _ (fun _ _ => rfl)) (hres _ _ _), by rw [hv]; exact rfl, by simp, ?_, ?_⟩, fun x hx _ => hx⟩
    · intro b off hp
      rw [hq.frozen _ (hlt _ hp)]
      exact hfz b off hp
    · exact hnd

/-! ### Readings as trees -/

theorem cell_addr {W : World} {a : Addr} {v : Value} (h : W.cell? a = some v) : a = ⟨a.block, a.off, none⟩ := by
  have := World.cell?_spot h
  cases a; simp_all

theorem tree_rows {α : Type} (ea : α → List AV) (R : α → Prop) {W : World} {sp : Nat → Bool} {base : Nat} {t e : TypeId} (ht : P.underlying t = some (.slice e)) (sz : Nat) (hc : P.cellsOf e = sz) (hsz : 0 < sz)
    (helem : ∀ fuel cs x, DataW.trod enc P W base sp true fuel e cs = some x → cs.length = sz → ∃ a, R a ∧ (ea a).length = sz ∧ ∀ (c : Nat) y, (ea a)[c]? = some y → TreeR W (startZ W) y (cs.getD c Go.undef))
    {fuel : Nat} {cs : List Value} {x : DataW H × List MemPlace} (h : DataW.trod enc P W base sp true fuel t cs = some x) :
    ∃ (as : List α) (v : Value), cs = [v] ∧ (∀ a ∈ as, R a) ∧ as.length ≤ maxLen ∧ TreeR W (startZ W) (.tree sz (as.map ea)) v := by
  rcases DataW.trod_slice ht h with ⟨rfl, _⟩ | ⟨a, len, cap, elems, rest, n, _, rfl, _, hb, hlc, hm, hlen, hel, _, _⟩
  · exact ⟨[], _, rfl, by simp, Nat.zero_le _, .nil _ _ _⟩
  · have key : ∀ i : Fin len, ∃ (a1 : α) (ci : List Value), R a1 ∧ (ea a1).length = sz ∧ ci.length = sz ∧ (∀ j, j < sz → W.cell? ((a.add (i * sz)).add j) = ci[j]?) ∧ ∀ (c : Nat) y, (ea a1)[c]? = some y → TreeR W (startZ W) y (ci.getD c Go.undef) := by
      intro i
      have hi := hel i i.2
      rw [hc, List.getElem?_eq_getElem (by rw [hlen]; exact i.2)] at hi
      cases hcs : W.cells? base (a.add (↑i * sz)) sz with
      | none => rw [hcs] at hi; simp at hi
      | some ci =>
        rw [hcs] at hi
        obtain ⟨_, hcl, hcc⟩ := World.cells?_some hcs
        obtain ⟨a1, h1, h2, h3⟩ := helem n ci _ hi hcl
        exact ⟨a1, ci, h1, h2, hcl, hcc, h3⟩
    by_cases h0 : len = 0
    · subst h0
      exact ⟨[], _, rfl, by simp, Nat.zero_le _, .nil _ _ _⟩
    · obtain ⟨b, off, spot⟩ := a
      have hspot : spot = none ∧ b < W.heap.size := by
        obtain ⟨a1, ci, _, _, h3, h4, _⟩ := key ⟨0, by omega⟩
        have := h4 0 hsz
        rw [List.getElem?_eq_getElem (by omega)] at this
        have e : (Addr.add (Addr.add ⟨b, off, spot⟩ (0 * sz)) 0) = ⟨b, off, spot⟩ := by simp [Addr.add]
        rw [e] at this
        refine ⟨World.cell?_spot this, ?_⟩
        simp only [World.cell?] at this
        rcases Nat.lt_or_ge b W.heap.size with h | h
        · exact h
        · simp [Array.getElem?_eq_none h] at this
      obtain ⟨rfl, hbz⟩ := hspot
      let as : List α := List.ofFn fun i : Fin len => (key i).choose
      have hasl : as.length = len := by simp [as]
      have hspec : ∀ r, (hr : r < len) → ∃ ci : List Value, R (as[r]'(by rw [hasl]; exact hr)) ∧ (ea (as[r]'(by rw [hasl]; exact hr))).length = sz ∧ ci.length = sz ∧ (∀ j, j < sz → W.cell? ⟨b, off + (r * sz + j), none⟩ = ci[j]?) ∧ ∀ (c : Nat) y, (ea (as[r]'(by rw [hasl]; exact hr)))[c]? = some y → TreeR W (startZ W) y (ci.getD c Go.undef) := by
        intro r hr
        have e : as[r]'(by rw [hasl]; exact hr) = (key ⟨r, hr⟩).choose := by simp [as]
        obtain ⟨ci, h1, h2, h3, h4, h5⟩ := (key ⟨r, hr⟩).choose_spec
        refine ⟨ci, by rw [e]; exact h1, by rw [e]; exact h2, h3, fun j hj => ?_, by rw [e]; exact h5⟩
        have := h4 j hj
        rw [add_plain, add_plain] at this
        rw [← this]
        congr 2
        show off + (r * sz + j) = off + r * sz + j
        omega
      have hcell : ∀ r c y, cellAt (as.map ea) r c = some y → ∃ hr : r < as.length, (ea as[r])[c]? = some y := by
        intro r c y hy
        simp only [cellAt, List.getElem?_map] at hy
        rcases Nat.lt_or_ge r as.length with hr | hr
        · rw [List.getElem?_eq_getElem hr] at hy
          exact ⟨hr, by simpa using hy⟩
        · rw [List.getElem?_eq_none hr] at hy; simp at hy
      refine ⟨as, _, rfl, ?_, by omega, ?_⟩
      · intro a1 ha
        obtain ⟨r, hr, rfl⟩ := List.mem_iff_getElem.1 ha
        exact (hspec r (by omega)).choose_spec.1
      · have e : (.slice (some ⟨b, off, none⟩) len cap : Value) = .slice (some ⟨b, off, none⟩) (as.map ea).length cap := by simp [hasl]
        rw [e]
        refine .tree sz _ b off cap (fun r c => (W.cell? ⟨b, off + (r * sz + c), none⟩).getD Go.undef) hbz ?_ (by simp [hasl]; omega) ?_ ?_
        · intro row hrow
          simp only [List.mem_map] at hrow
          obtain ⟨a1, ha, rfl⟩ := hrow
          obtain ⟨r, hr, rfl⟩ := List.mem_iff_getElem.1 ha
          exact (hspec r (by omega)).choose_spec.2.1
        · intro r c y hy
          obtain ⟨hr, hy⟩ := hcell r c y hy
          obtain ⟨ci, h1, h2, h3, h4, h5⟩ := hspec r (by omega)
          have hcs : c < sz := by rw [← h2]; exact (List.getElem?_eq_some_iff.1 hy).1
          rw [h4 c hcs, List.getElem?_eq_getElem (by omega)]; rfl
        · intro r c y hy
          obtain ⟨hr, hy⟩ := hcell r c y hy
          obtain ⟨ci, h1, h2, h3, h4, h5⟩ := hspec r (by omega)
          have hcs : c < sz := by rw [← h2]; exact (List.getElem?_eq_some_iff.1 hy).1
          rw [h4 c hcs, ← List.getD_eq_getElem?_getD]
          exact h5 c y hy

theorem wf_i64 {n : Int} (h : (Lit.int .i64 n).wf = true) : -9223372036854775808 ≤ n ∧ n ≤ 9223372036854775807 := by
  simp only [Lit.wf, Bool.and_eq_true, decide_eq_true_eq] at h
  exact h

section
variable {W : World} {sp : Nat → Bool} {base : Nat} {fuel : Nat} {cs : List Value} {x : DataW H × List MemPlace}

def I64 (n : Int) : Prop := -9223372036854775808 ≤ n ∧ n ≤ 9223372036854775807

theorem tree_ints {t e : TypeId} (ht : P.underlying t = some (.slice e)) (he : P.underlying e = some (.int .i64)) (hc : P.cellsOf e = 1) (h : DataW.trod enc P W base sp true fuel t cs = some x) :
    ∃ (xs : List Int) (v : Value), cs = [v] ∧ (∀ n ∈ xs, I64 n) ∧ xs.length ≤ maxLen ∧ TreeR W (startZ W) (.tree 1 (ints xs)) v := by
  refine tree_rows (fun n => [AV.lit (.int .i64 n)]) I64 ht 1 hc (by decide) (fun fuel cs x h hl => ?_) h
  obtain ⟨n, rfl, _, hw⟩ := DataW.trod_int he h
  refine ⟨n, wf_i64 hw, rfl, fun c y hy => ?_⟩
  match c, hy with
  | 0, hy => simp at hy; subst hy; exact .lit _

theorem tree_bools {t e : TypeId} (ht : P.underlying t = some (.slice e)) (he : P.underlying e = some .bool) (hc : P.cellsOf e = 1) (h : DataW.trod enc P W base sp true fuel t cs = some x) :
    ∃ (xs : List Bool) (v : Value), cs = [v] ∧ (∀ n ∈ xs, True) ∧ xs.length ≤ maxLen ∧ TreeR W (startZ W) (.tree 1 (bools xs)) v := by
  refine tree_rows (fun n => [AV.lit (.bool n)]) (fun _ => True) ht 1 hc (by decide) (fun fuel cs x h hl => ?_) h
  obtain ⟨n, rfl, _⟩ := DataW.trod_bool he h
  refine ⟨n, trivial, rfl, fun c y hy => ?_⟩
  match c, hy with
  | 0, hy => simp at hy; subst hy; exact .lit _

theorem tree_intss {t e g : TypeId} (ht : P.underlying t = some (.slice e)) (he : P.underlying e = some (.slice g)) (hg : P.underlying g = some (.int .i64)) (hc : P.cellsOf e = 1) (hcg : P.cellsOf g = 1) (h : DataW.trod enc P W base sp true fuel t cs = some x) :
    ∃ (xs : List (List Int)) (v : Value), cs = [v] ∧ (∀ l ∈ xs, (∀ n ∈ l, I64 n) ∧ l.length ≤ maxLen) ∧ xs.length ≤ maxLen ∧ TreeR W (startZ W) (.tree 1 (intss xs)) v := by
  refine tree_rows (fun l => [AV.tree 1 (ints l)]) _ ht 1 hc (by decide) (fun fuel cs x h hl => ?_) h
  obtain ⟨xs, v, rfl, h1, h2, h3⟩ := tree_ints he hg hcg h
  refine ⟨xs, ⟨h1, h2⟩, rfl, fun c y hy => ?_⟩
  match c, hy with
  | 0, hy => simp at hy; subst hy; exact h3
end

/-- an argument that is a slice -/
theorem Trod.slice {W : World} {sp : Nat → Bool} {t e : TypeId} {r : Reach} {b0 : Nat} {v : Value} {d : DataW H} {ps : List MemPlace} (ht : P.underlying t = some (.slice e)) (hval : Value.okWide P W r b0 t v) (h : DataW.Trod enc P W 0 sp true t v d ps) :
    ∃ fuel, DataW.trod enc P W 0 sp true fuel t [v] = some (d, ps) := by
  obtain ⟨a, l, c, rfl⟩ := okWide_slice ht hval
  obtain ⟨fuel, hf⟩ := h
  exact ⟨fuel, by simpa [Value.cells] using hf⟩

end Go.Am
end
section
namespace Go.Am
open Go.ChangeShapes Go.WideShapes Go.ChangeAt Go.RowKit
variable {P : Program} {H : Type} {enc : TypeId × Value → H} {W : World} {sp : Nat → Bool} {base : Nat}

/-- cells that read as these abstract values -/
def RowRead (W : World) (cells : List AV) (cs : List Value) : Prop := cells.length = cs.length ∧ ∀ (c : Nat) y, cells[c]? = some y → TreeR W (startZ W) y (cs.getD c Go.undef)

theorem RowRead.join {a b : List AV} {n : Nat} {cs : List Value} (h : RowRead W a (cs.take n)) (k : RowRead W b (cs.drop n)) (hn : n ≤ cs.length) : RowRead W (a ++ b) cs := by
  obtain ⟨h1, h2⟩ := h
  obtain ⟨k1, k2⟩ := k
  rw [List.length_take, Nat.min_eq_left hn] at h1
  rw [List.length_drop] at k1
  refine ⟨by rw [List.length_append]; omega, fun c y hy => ?_⟩
  rcases Nat.lt_or_ge c a.length with hc | hc
  · rw [List.getElem?_append_left hc] at hy
    have := h2 c y hy
    rwa [List.getD_eq_getElem?_getD, List.getElem?_take_of_lt (by omega), ← List.getD_eq_getElem?_getD] at this
  · rw [List.getElem?_append_right hc] at hy
    have := k2 _ y hy
    rw [List.getD_eq_getElem?_getD, List.getElem?_drop, ← List.getD_eq_getElem?_getD, show n + (c - a.length) = c by omega] at this
    exact this

/-- what is read at a type -/
def Reads (P : Program) (enc : TypeId × Value → H) (W : World) (base : Nat) (sp : Nat → Bool) {α : Type} (t : TypeId) (ea : α → List AV) (R : α → Prop) : Prop :=
  ∀ fuel cs x, DataW.trod enc P W base sp true fuel t cs = some x → ∃ a, R a ∧ RowRead W (ea a) cs

theorem reads_int {t : TypeId} (ht : P.underlying t = some (.int .i64)) : Reads P enc W base sp t (fun n : Int => [.lit (.int .i64 n)]) I64 := by
  intro fuel cs x h
  obtain ⟨n, rfl, _, hw⟩ := DataW.trod_int ht h
  refine ⟨n, wf_i64 hw, rfl, fun c y hy => ?_⟩
  match c, hy with
  | 0, hy => simp at hy; subst hy; exact .lit _

theorem reads_bool {t : TypeId} (ht : P.underlying t = some .bool) : Reads P enc W base sp t (fun n : Bool => [.lit (.bool n)]) (fun _ => True) := by
  intro fuel cs x h
  obtain ⟨n, rfl, _⟩ := DataW.trod_bool ht h
  refine ⟨n, trivial, rfl, fun c y hy => ?_⟩
  match c, hy with
  | 0, hy => simp at hy; subst hy; exact .lit _

theorem reads_slice {α : Type} {ea : α → List AV} {R : α → Prop} {t e : TypeId} {sz : Nat} (ht : P.underlying t = some (.slice e)) (hc : P.cellsOf e = sz) (hsz : 0 < sz) (hwid : ∀ a, (ea a).length = sz) (he : Reads P enc W base sp e ea R) :
    Reads P enc W base sp t (fun l : List α => [.tree sz (l.map ea)]) (fun l => (∀ a ∈ l, R a) ∧ l.length ≤ maxLen) := by
  intro fuel cs x h
  obtain ⟨as, v, rfl, h1, h2, h3⟩ := tree_rows ea R ht sz hc hsz (fun fuel cs x h hl => by
    obtain ⟨a, h1, h2, h3⟩ := he fuel cs x h
    exact ⟨a, h1, hwid a, h3⟩) h
  refine ⟨as, ⟨h1, h2⟩, rfl, fun c y hy => ?_⟩
  match c, hy with
  | 0, hy => simp at hy; subst hy; exact h3

theorem reads_fields {t : TypeId} {T : Ty} (hty : ty P t = T) (hk : T.kind = 3) {fuel : Nat} {cs : List Value} {x : DataW H × List MemPlace} (h : DataW.trod enc P W base sp true fuel t cs = some x) :
    cs.length = T.size ∧ ∃ n, ∀ f ∈ T.flds, ∃ y, DataW.trod enc P W base sp true n f.2.1 ((cs.drop f.1).take f.2.2) = some y := by
  have hk' : (ty P t).kind = 3 := by rw [hty]; exact hk
  obtain ⟨fs, h1, h2⟩ := ty_struct hk'
  obtain ⟨i, d, hi, hd, hsz, _⟩ := ty_info (P := P) (t := t) (by rw [hk']; decide)
  obtain ⟨xs, n, rfl, _, hl, hx, hf⟩ := DataW.trod_struct h1 h
  refine ⟨?_, n, fun f hmem => ?_⟩
  · rw [hl, ← hty, hsz]; simp [Program.cellsOf, hi]
  · rw [← hty, h2] at hmem
    obtain ⟨g, hg, rfl⟩ := List.mem_map.1 hmem
    obtain ⟨j, hj, rfl⟩ := List.mem_iff_getElem.1 hg
    have hj' : j < fs.size := by simpa using hj
    have := hf j fs.toList[j] (by simp [hj'])
    have hxs : j < xs.length := by omega
    rw [List.getElem?_eq_getElem hxs] at this
    refine ⟨xs[j], ?_⟩
    rw [← this]
    congr 2
    simp only [sizeT, Program.cellsOf]
    cases P.info? (fs.toList[j]).type <;> rfl

end Go.Am
end
section
namespace Go.Am
open Go.ChangeShapes Go.WideShapes Go.ChangeAt Go.RowKit
variable {P : Program} {H : Type} {enc : TypeId × Value → H} {W : World} {sp : Nat → Bool} {base : Nat}

/-- an argument as it is read: one cell, or a struct's cells -/
def ArgT (W : World) (v : AV) (cv : Value) : Prop := TreeR W (startZ W) v cv ∨ ∃ cs cvs, v = .agg cs ∧ cv = .agg cvs ∧ RowRead W cs cvs.toList

theorem call_trueA {f : FuncId} {avs : List AV} {W : World} {args : Array Value} {r : Value} (h : Holds P f avs [] (.lit r) []) (hl : args.size = avs.length) (ht : ∀ (j : Nat) v, avs[j]? = some v → ArgT W v (args.getD j Go.undef)) (hg : GlobOK W := by intro _ _ h; cases h) :
    Calls P f args W fun e W' => e = .returned r ∧ Quiet W W' := by
  let γ : Cx := { w := W, tmps := args, Z := startZ W, blk := fun _ => none }
  have hs : Sim ⟨fun k => avs.getD k .undef, []⟩ γ := by
    refine ⟨fun k => ?_, fun i o ho => by simp at ho, fun i j b o c o' c' hi => ?_, fun b ⟨i, o, c, hi, _⟩ => ?_, fun b hb => hb, fun g => hg.rel g⟩
    · show RelV [] W (startZ W) _ (avs.getD k .undef) (args.getD k Go.undef)
      cases hk : avs[k]? with
      | none => rw [List.getD_eq_getElem?_getD, hk]; exact .undef _
      | some v =>
        rw [List.getD_eq_getElem?_getD, hk]
        rcases ht k v hk with h1 | ⟨cs, cvs, rfl, h2, h3, h4⟩
        · exact .frz _ _ h1
        · rw [h2]
          refine .agg _ _ (by simpa using h3.symm) (fun j x hx => .frz _ _ ?_)
          have := h4 j x hx
          simpa [Array.getD_eq_getD_getElem?, List.getD_eq_getElem?_getD] using this
    · obtain ⟨o, ho, _⟩ := hi; simp at ho
    · obtain ⟨o, ho, _⟩ := hi; simp at ho
  refine (h.2 γ hl hs).mono ?_
  rintro e w' ⟨cv, γ', rfl, rfl, htm, hs', hf⟩
  have h0 := hs'.slots 0
  rw [htm] at h0
  have e0 : cv = r := by
    have := h0.lit_inv
    simpa using this
  subst e0
  refine ⟨rfl, hf.eos, hf.tape, hf.output, hf.size, fun b hb => hf.keep b hb (fun ⟨i, o, c, hi, _⟩ => ?_)⟩
  obtain ⟨o, ho, _⟩ := hi; simp at ho

/-- an argument that is a struct -/
theorem Trod.strct {W : World} {sp : Nat → Bool} {t : TypeId} {fs : Array Field} {r : Reach} {b0 : Nat} {v : Value} {d : DataW H} {ps : List MemPlace} (ht : P.underlying t = some (.struct fs)) (hval : Value.okWide P W r b0 t v) (h : DataW.Trod enc P W 0 sp true t v d ps) :
    ∃ cs fuel, v = .agg cs ∧ DataW.trod enc P W 0 sp true fuel t cs.toList = some (d, ps) := by
  obtain ⟨cs, rfl, _⟩ := okWide_struct ht hval
  obtain ⟨fuel, hf⟩ := h
  exact ⟨cs, fuel, rfl, by simpa [Value.cells] using hf⟩

theorem Trod.strct' {W : World} {sp : Nat → Bool} {t : TypeId} {r : Reach} {b0 : Nat} {v : Value} {d : DataW H} {ps : List MemPlace} (ht : (ty P t).kind = 3) (hval : Value.okWide P W r b0 t v) (h : DataW.Trod enc P W 0 sp true t v d ps) :
    ∃ cs fuel, v = .agg cs ∧ DataW.trod enc P W 0 sp true fuel t cs.toList = some (d, ps) := by
  obtain ⟨fs, h1, _⟩ := ty_struct ht
  exact Trod.strct h1 hval h

/-- one cell -/
theorem RowRead.cell {cells : List AV} {cs : List Value} {o n j : Nat} {v : AV} (h : RowRead W cells ((cs.drop o).take n)) (hv : cells[j]? = some v) : TreeR W (startZ W) v (cs.getD (o + j) Go.undef) := by
  have h2 := h.2 j v hv
  have hl : j < ((cs.drop o).take n).length := by rw [← h.1]; exact (List.getElem?_eq_some_iff.1 hv).1
  have hn : j < n := by simp at hl; omega
  rwa [List.getD_eq_getElem?_getD, List.getElem?_take_of_lt hn, List.getElem?_drop, ← List.getD_eq_getElem?_getD] at h2

theorem RowRead.mk4 {cs : List Value} {a b c d : AV} (hl : cs.length = 4) (h0 : TreeR W (startZ W) a (cs.getD 0 Go.undef)) (h1 : TreeR W (startZ W) b (cs.getD 1 Go.undef)) (h2 : TreeR W (startZ W) c (cs.getD 2 Go.undef)) (h3 : TreeR W (startZ W) d (cs.getD 3 Go.undef)) : RowRead W [a, b, c, d] cs :=
  ⟨by simp [hl], fun j y hy => by
    match j, hy with
    | 0, hy => simp at hy; subst hy; exact h0
    | 1, hy => simp at hy; subst hy; exact h1
    | 2, hy => simp at hy; subst hy; exact h2
    | 3, hy => simp at hy; subst hy; exact h3⟩
theorem RowRead.mk2 {cs : List Value} {a b : AV} (hl : cs.length = 2) (h0 : TreeR W (startZ W) a (cs.getD 0 Go.undef)) (h1 : TreeR W (startZ W) b (cs.getD 1 Go.undef)) : RowRead W [a, b] cs :=
  ⟨by simp [hl], fun j y hy => by
    match j, hy with
    | 0, hy => simp at hy; subst hy; exact h0
    | 1, hy => simp at hy; subst hy; exact h1⟩
theorem RowRead.mk3 {cs : List Value} {a b c : AV} (hl : cs.length = 3) (h0 : TreeR W (startZ W) a (cs.getD 0 Go.undef)) (h1 : TreeR W (startZ W) b (cs.getD 1 Go.undef)) (h2 : TreeR W (startZ W) c (cs.getD 2 Go.undef)) : RowRead W [a, b, c] cs :=
  ⟨by simp [hl], fun j y hy => by
    match j, hy with
    | 0, hy => simp at hy; subst hy; exact h0
    | 1, hy => simp at hy; subst hy; exact h1
    | 2, hy => simp at hy; subst hy; exact h2⟩
theorem RowRead.mk6 {cs : List Value} {a b c d e f : AV} (hl : cs.length = 6) (h0 : TreeR W (startZ W) a (cs.getD 0 Go.undef)) (h1 : TreeR W (startZ W) b (cs.getD 1 Go.undef)) (h2 : TreeR W (startZ W) c (cs.getD 2 Go.undef)) (h3 : TreeR W (startZ W) d (cs.getD 3 Go.undef)) (h4 : TreeR W (startZ W) e (cs.getD 4 Go.undef)) (h5 : TreeR W (startZ W) f (cs.getD 5 Go.undef)) : RowRead W [a, b, c, d, e, f] cs :=
  ⟨by simp [hl], fun j y hy => by
    match j, hy with
    | 0, hy => simp at hy; subst hy; exact h0
    | 1, hy => simp at hy; subst hy; exact h1
    | 2, hy => simp at hy; subst hy; exact h2
    | 3, hy => simp at hy; subst hy; exact h3
    | 4, hy => simp at hy; subst hy; exact h4
    | 5, hy => simp at hy; subst hy; exact h5⟩

end Go.Am
end
