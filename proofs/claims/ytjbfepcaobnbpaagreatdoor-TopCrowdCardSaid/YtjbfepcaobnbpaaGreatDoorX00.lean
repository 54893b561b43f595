import Derived.Orders
import Derived.Laws.AppendOwn
import Derived.Laws.MakeOwn
import Derived.Laws.Slices
import Derived.Laws.Small
set_option linter.unusedVariables false
set_option linter.unusedSimpArgs false
set_option linter.unnecessarySimpa false
set_option linter.unusedSectionVars false
section
namespace Go.Am
/-- package variables that are only read: their blocks, with what they hold -/
def globT : List (Nat × List Value) := []
end Go.Am
end
section
namespace Go.Am

/-- abstract values -/
inductive AV where
  | undef
  | lit (v : Value)
  | tree (sz : Nat) (rows : List (List AV))
  | taddr (cells : List AV)
  | ref (id sz off len : Nat)
  | ptr (id r c : Nat)
  | agg (cs : List AV)
  | tup (vs : List AV)
  | fn (f : FuncId) (caps : List AV)
  | bfn (f : FuncId) (first : List AV)
  | ifc (t : TypeId) (v : AV)
  | mref (id : Nat)
  deriving Inhabited

/-- objects of the activation: a variable's cells, or an array that it owns -/
inductive Ob where
  | gone
  | var (cells : List AV)
  | arr (sz : Nat) (rows : List (List AV))
  | mp (ag : Nat) (L : List (List Int × AV))
  deriving Inhabited

structure St where
  env : Nat → AV
  objs : List Ob

def upd (e : Nat → AV) (d : Nat) (v : AV) : Nat → AV := fun k => if k = d then v else e k
def cellAt (rows : List (List AV)) (r c : Nat) : Option AV := (rows[r]?).bind (·[c]?)

/-- a map's entries: the keys are integers (0), or rows of so many integers -/
def mkEs (ents : List (Value × Value)) : Array MapEntry := (ents.mapIdx fun i p => (⟨p.1, p.2, i⟩ : MapEntry)).toArray
def kV (ag : Nat) (l : List Int) : Value := if ag = 0 then .int .i64 (l.headD 0) else .agg (l.map fun n => .int .i64 n).toArray
def kLen (ag : Nat) : Nat := if ag = 0 then 1 else ag
def mpE (ag : Nat) (f : Nat → Value) (L : List (List Int × AV)) : List (Value × Value) := L.mapIdx fun j p => (kV ag p.1, f j)

theorem mpE_map (ag : Nat) (f : Nat → Value) (g : AV → AV) (L : List (List Int × AV)) : mpE ag f (L.map fun p => (p.1, g p.2)) = mpE ag f L := by
  unfold mpE
  apply List.ext_getElem
  · simp
  · intros; simp

/-- where an object lies: block, offset, capacity (in rows) -/
abbrev Blk := Nat → Option (Nat × Nat × Nat)

inductive TreeR (w : World) (Z : Nat → Prop) : AV → Value → Prop where
  | lit (v : Value) : TreeR w Z (.lit v) v
  | nil (sz cap : Nat) (a : Option Addr) : TreeR w Z (.tree sz []) (.slice a 0 cap)
  | tree (sz : Nat) (rows : List (List AV)) (b o cap : Nat) (f : Nat → Nat → Value) (hz : Z b) (hr : ∀ row ∈ rows, row.length = sz) (hcap : rows.length ≤ cap)
      (hc : ∀ r c x, cellAt rows r c = some x → w.cell? ⟨b, o + (r * sz + c), none⟩ = some (f r c))
      (ht : ∀ r c x, cellAt rows r c = some x → TreeR w Z x (f r c)) : TreeR w Z (.tree sz rows) (.slice (some ⟨b, o, none⟩) rows.length cap)

inductive RelV (os : List Ob) (w : World) (Z : Nat → Prop) (blk : Blk) : AV → Value → Prop where
  | undef (cv : Value) : RelV os w Z blk .undef cv
  | frz (v : AV) (cv : Value) (h : TreeR w Z v cv) : RelV os w Z blk v cv
  | taddr (cells : List AV) (b o : Nat) (f : Nat → Value) (hz : Z b) (hc : ∀ j x, cells[j]? = some x → w.cell? ⟨b, o + j, none⟩ = some (f j))
      (ht : ∀ j x, cells[j]? = some x → TreeR w Z x (f j)) : RelV os w Z blk (.taddr cells) (.pointer (some ⟨b, o, none⟩))
  | deadRef (id sz off len : Nat) (cv : Value) (h : os[id]? = some .gone) (h1 : cv.oneCell' = true) : RelV os w Z blk (.ref id sz off len) cv
  | deadPtr (id r c : Nat) (cv : Value) (h : os[id]? = some .gone) (h1 : cv.oneCell' = true) : RelV os w Z blk (.ptr id r c) cv
  | ref (id sz off len b o cap cap' : Nat) (rows : List (List AV)) (h : os[id]? = some (.arr sz rows)) (hb : blk id = some (b, o, cap))
      (hl : off + len ≤ rows.length) (hc : off + cap' ≤ cap) (hlc : len ≤ cap') : RelV os w Z blk (.ref id sz off len) (.slice (some ⟨b, o + off * sz, none⟩) len cap')
  | refNil (id sz : Nat) (h : os[id]? = some (.arr sz [])) (hb : blk id = none) : RelV os w Z blk (.ref id sz 0 0) (.slice none 0 0)
  | refEnd (id sz off b x : Nat) (bo : Nat × Nat) (rows : List (List AV)) (h : os[id]? = some (.arr sz rows)) (hb : blk id = some (b, bo)) (hl : off ≤ rows.length) :
      RelV os w Z blk (.ref id sz off 0) (.slice (some ⟨b, x, none⟩) 0 0)
  | ptrV (id c b cap : Nat) (cells : List AV) (h : os[id]? = some (.var cells)) (hb : blk id = some (b, 0, cap)) : RelV os w Z blk (.ptr id 0 c) (.pointer (some ⟨b, c, none⟩))
  | ptrA (id r c sz b o cap : Nat) (rows : List (List AV)) (h : os[id]? = some (.arr sz rows)) (hb : blk id = some (b, o, cap)) :
      RelV os w Z blk (.ptr id r c) (.pointer (some ⟨b, o + (r * sz + c), none⟩))
  | agg (cs : List AV) (cvs : Array Value) (hs : cvs.size = cs.length) (h : ∀ j x, cs[j]? = some x → RelV os w Z blk x (cvs.getD j Go.undef)) : RelV os w Z blk (.agg cs) (.agg cvs)
  | tup (cs : List AV) (cvs : Array Value) (hs : cvs.size = cs.length) (h : ∀ j x, cs[j]? = some x → RelV os w Z blk x (cvs.getD j Go.undef)) : RelV os w Z blk (.tup cs) (.tuple cvs)
  | fn (f : FuncId) (cs : List AV) (cvs : Array Value) (hs : cvs.size = cs.length) (h : ∀ j x, cs[j]? = some x → RelV os w Z blk x (cvs.getD j Go.undef)) :
      RelV os w Z blk (.fn f cs) (.func (.func f) #[] cvs)
  | bfn (f : FuncId) (cs : List AV) (cvs : Array Value) (hs : cvs.size = cs.length) (h : ∀ j x, cs[j]? = some x → RelV os w Z blk x (cvs.getD j Go.undef)) :
      RelV os w Z blk (.bfn f cs) (.func (.func f) cvs #[])
  | ifc (t : TypeId) (v : AV) (cv : Value) (h : RelV os w Z blk v cv) : RelV os w Z blk (.ifc t v) (.iface t cv)
  | mref (id b : Nat) (ag : Nat) (L : List (List Int × AV)) (h : os[id]? = some (.mp ag L)) (hb : blk id = some (b, 0, 0)) : RelV os w Z blk (.mref id) (.map (some b))
  | deadM (id : Nat) (cv : Value) (h : os[id]? = some .gone) (h1 : cv.oneCell' = true) : RelV os w Z blk (.mref id) cv

/-- one object in memory -/
def ObR (os : List Ob) (w : World) (Z : Nat → Prop) (blk : Blk) (i : Nat) : Ob → Prop
  | .gone => True
  | .var cells => ∃ b cap cur t, blk i = some (b, 0, cap) ∧ w.heap[b]? = some (.cells cur t (0, 0)) ∧ cur.size = cells.length ∧
      ∀ c v, cells[c]? = some v → RelV os w Z blk v (cur.getD c Go.undef)
  | .arr sz rows => 0 < sz ∧ (∀ row ∈ rows, row.length = sz) ∧
      ((blk i = none ∧ rows = []) ∨ ∃ b o cap cur t, blk i = some (b, o, cap) ∧ w.heap[b]? = some (.cells cur t (0, 0)) ∧ o + cap * sz ≤ cur.size ∧ rows.length ≤ cap ∧ cap ≤ maxLen ∧
        ∀ r c v, cellAt rows r c = some v → RelV os w Z blk v (cur.getD (o + (r * sz + c)) Go.undef))
  | .mp ag L => ∃ b, ∃ f : Nat → Value, blk i = some (b, 0, 0) ∧ w.heap[b]? = some (.map (mkEs (mpE ag f L)) L.length) ∧ (∀ p ∈ L, p.1.length = kLen ag) ∧ ∀ (j : Nat) p, L[j]? = some p → RelV os w Z blk p.2 (f j)

/-- a package variable, as its address -/
def globA (g : Nat) : AV :=
  match globT.lookup g with
  | some cs => .taddr (cs.map .lit)
  | none => .undef

structure Cx where
  w : World
  tmps : Array Value
  Z : Nat → Prop
  blk : Blk
  D : List Deferred := []

def Live (os : List Ob) (i : Nat) : Prop := ∃ o, os[i]? = some o ∧ o ≠ .gone
def Owned (os : List Ob) (blk : Blk) (b : Nat) : Prop := ∃ i o cap, Live os i ∧ blk i = some (b, o, cap)

structure Sim (σ : St) (γ : Cx) : Prop where
  slots : ∀ k, RelV σ.objs γ.w γ.Z γ.blk (σ.env k) (γ.tmps.getD k Go.undef)
  obs : ∀ (i : Nat) o, σ.objs[i]? = some o → ObR σ.objs γ.w γ.Z γ.blk i o
  inj : ∀ i j b o c o' c', Live σ.objs i → Live σ.objs j → γ.blk i = some (b, o, c) → γ.blk j = some (b, o', c') → i = j
  nz : ∀ b, Owned σ.objs γ.blk b → ¬ γ.Z b
  zlt : ∀ b, γ.Z b → b < γ.w.heap.size
  gl : ∀ g, RelV σ.objs γ.w γ.Z γ.blk (globA g) (.pointer (some ⟨g, 0, none⟩))

/-- two objects of one shape -/
def Ob.like : Ob → Ob → Prop
  | .var a, .var b => a.length = b.length
  | .arr s a, .arr s' b => s = s' ∧ a.length = b.length
  | .mp a _, .mp b _ => a = b
  | _, _ => False

theorem Ob.like_refl {o : Ob} (h : o ≠ .gone) : o.like o := by
  cases o <;> simp_all [Ob.like]

theorem Ob.like_trans {a b c : Ob} (h : a.like b) (k : b.like c) : a.like c := by
  cases a <;> cases b <;> cases c <;> simp_all [Ob.like]

theorem Ob.like_live {a b : Ob} (h : a.like b) : a ≠ .gone ∧ b ≠ .gone := by
  cases a <;> cases b <;> simp_all [Ob.like]

/-- what has become of the world since the activation began -/
structure Fr (os₀ : List Ob) (γ₀ : Cx) (os : List Ob) (γ : Cx) : Prop where
  eos : γ.w.os = γ₀.w.os
  tape : γ.w.tape = γ₀.w.tape
  output : γ.w.output = γ₀.w.output
  size : γ₀.w.heap.size ≤ γ.w.heap.size
  keep : ∀ b, b < γ₀.w.heap.size → ¬ Owned os₀ γ₀.blk b → γ.w.heap[b]? = γ₀.w.heap[b]?
  z0 : ∀ b, γ₀.Z b → γ.Z b
  z1 : ∀ b, γ.Z b → γ₀.Z b ∨ Owned os₀ γ₀.blk b ∨ γ₀.w.heap.size ≤ b
  own : ∀ b, Owned os γ.blk b → Owned os₀ γ₀.blk b ∨ γ₀.w.heap.size ≤ b
  len : os₀.length ≤ os.length
  old : ∀ i, i < os₀.length → Live os i → γ.blk i = γ₀.blk i ∧ ∃ o o', os₀[i]? = some o ∧ os[i]? = some o' ∧ o.like o'
  drawn : γ₀.w.drawn ≤ γ.w.drawn := by first | exact Nat.le_refl _ | (simp; done) | omega

theorem Fr.refl (os : List Ob) (γ : Cx) : Fr os γ os γ :=
  ⟨rfl, rfl, rfl, Nat.le_refl _, fun _ _ _ => rfl, fun _ h => h, fun _ h => .inl h, fun _ h => .inl h, Nat.le_refl _, fun _ _ ⟨o, ho, hg⟩ => ⟨rfl, o, o, ho, ho, Ob.like_refl hg⟩, Nat.le_refl _⟩

theorem Fr.setD {os os' : List Ob} {γ γ' : Cx} {D : List Deferred} (h : Fr os γ os' γ') : Fr os { γ with D := D } os' γ' :=
  ⟨h.eos, h.tape, h.output, h.size, h.keep, h.z0, h.z1, h.own, h.len, h.old, h.drawn⟩
theorem Fr.unD {os os' : List Ob} {γ γ' : Cx} {D : List Deferred} (h : Fr os { γ with D := D } os' γ') : Fr os γ os' γ' :=
  ⟨h.eos, h.tape, h.output, h.size, h.keep, h.z0, h.z1, h.own, h.len, h.old, h.drawn⟩

theorem Fr.trans {a b c : List Ob} {x y z : Cx} (h : Fr a x b y) (k : Fr b y c z) : Fr a x c z where
  eos := k.eos.trans h.eos
  tape := k.tape.trans h.tape
  output := k.output.trans h.output
  drawn := Nat.le_trans h.drawn k.drawn
  size := Nat.le_trans h.size k.size
  keep := fun n hn ho => (k.keep n (Nat.lt_of_lt_of_le hn h.size) (fun hw => (h.own n hw).elim ho (fun hl => by omega))).trans (h.keep n hn ho)
  z0 := fun n hn => k.z0 n (h.z0 n hn)
  z1 := fun n hn => by
    rcases k.z1 n hn with h1 | h1 | h1
    · exact h.z1 n h1
    · rcases h.own n h1 with h2 | h2
      · exact .inr (.inl h2)
      · exact .inr (.inr h2)
    · exact .inr (.inr (Nat.le_trans h.size h1))
  own := fun n hn => by
    rcases k.own n hn with h1 | h1
    · exact h.own n h1
    · exact .inr (Nat.le_trans h.size h1)
  len := Nat.le_trans h.len k.len
  old := fun i hi hl => by
    obtain ⟨h1, o, o', ho, ho', hk⟩ := k.old i (Nat.lt_of_lt_of_le hi h.len) hl
    obtain ⟨h3, x, x', hx, hx', hk'⟩ := h.old i hi ⟨o, ho, (Ob.like_live hk).1⟩
    rw [ho] at hx'
    simp at hx'
    subst hx'
    exact ⟨h1.trans h3, x, o', hx, ho', Ob.like_trans hk' hk⟩

theorem cell?_eq_of_heap {w w' : World} {b o : Nat} (h : w'.heap[b]? = w.heap[b]?) : w'.cell? ⟨b, o, none⟩ = w.cell? ⟨b, o, none⟩ := by
  simp [World.cell?, h]

theorem TreeR.mono {w w' : World} {Z Z' : Nat → Prop} {v : AV} {cv : Value} (h : TreeR w Z v cv) (hz : ∀ b, Z b → Z' b ∧ w'.heap[b]? = w.heap[b]?) : TreeR w' Z' v cv := by
  induction h with
  | lit v => exact .lit v
  | nil sz cap a => exact .nil sz cap a
  | tree sz rows b o cap f hzb hr hcap hc _ ih =>
    exact .tree sz rows b o cap f (hz b hzb).1 hr hcap (fun r c x hx => by rw [cell?_eq_of_heap (hz b hzb).2]; exact hc r c x hx) ih

theorem RelV.mono {os os' : List Ob} {w w' : World} {Z Z' : Nat → Prop} {blk blk' : Blk} {v : AV} {cv : Value} (h : RelV os w Z blk v cv)
    (hz : ∀ b, Z b → Z' b ∧ w'.heap[b]? = w.heap[b]?)
    (ho : ∀ i o, os[i]? = some o → os'[i]? = some .gone ∨ (blk' i = blk i ∧ ∃ o', os'[i]? = some o' ∧ o.like o')) : RelV os' w' Z' blk' v cv := by
  induction h with
  | undef cv => exact .undef cv
  | frz v cv h => exact .frz v cv (h.mono hz)
  | taddr cells b o f hzb hc ht =>
    exact .taddr cells b o f (hz b hzb).1 (fun j x hx => by rw [cell?_eq_of_heap (hz b hzb).2]; exact hc j x hx) (fun j x hx => (ht j x hx).mono hz)
  | deadRef id sz off len cv h h1 =>
    rcases ho id _ h with h' | ⟨_, o', _, hl⟩
    · exact .deadRef id sz off len cv h' h1
    · exact absurd hl (by simp [Ob.like])
  | deadPtr id r c cv h h1 =>
    rcases ho id _ h with h' | ⟨_, o', _, hl⟩
    · exact .deadPtr id r c cv h' h1
    · exact absurd hl (by simp [Ob.like])
  | ref id sz off len b o cap cap' rows h hb hl hc hlc =>
    rcases ho id _ h with h' | ⟨hbk, o', ho', hk⟩
    · exact .deadRef _ _ _ _ _ h' rfl
    · cases o' <;> simp [Ob.like] at hk
      obtain ⟨rfl, hk⟩ := hk
      exact .ref id sz off len b o cap cap' _ ho' (hbk.trans hb) (by omega) hc hlc
  | refNil id sz h hb =>
    rcases ho id _ h with h' | ⟨hbk, o', ho', hk⟩
    · exact .deadRef _ _ _ _ _ h' rfl
    · cases o' <;> simp [Ob.like] at hk
      obtain ⟨rfl, hk⟩ := hk
      have hk' := List.eq_nil_of_length_eq_zero hk.symm
      subst hk'
      exact .refNil id sz ho' (hbk.trans hb)
  | refEnd id sz off b x bo rows h hb hl =>
    rcases ho id _ h with h' | ⟨hbk, o', ho', hk⟩
    · exact .deadRef _ _ _ _ _ h' rfl
    · cases o' <;> simp [Ob.like] at hk
      obtain ⟨rfl, hk⟩ := hk
      exact .refEnd id sz off b x bo _ ho' (hbk.trans hb) (by omega)
  | ptrV id c b cap cells h hb =>
    rcases ho id _ h with h' | ⟨hbk, o', ho', hk⟩
    · exact .deadPtr _ _ _ _ h' rfl
    · cases o' <;> simp [Ob.like] at hk
      exact .ptrV id c b cap _ ho' (hbk.trans hb)
  | ptrA id r c sz b o cap rows h hb =>
    rcases ho id _ h with h' | ⟨hbk, o', ho', hk⟩
    · exact .deadPtr _ _ _ _ h' rfl
    · cases o' <;> simp [Ob.like] at hk
      obtain ⟨rfl, hk⟩ := hk
      exact .ptrA id r c sz b o cap _ ho' (hbk.trans hb)
  | agg cs cvs hs _ ih => exact .agg cs cvs hs ih
  | tup cs cvs hs _ ih => exact .tup cs cvs hs ih
  | fn f cs cvs hs _ ih => exact .fn f cs cvs hs ih
  | bfn f cs cvs hs _ ih => exact .bfn f cs cvs hs ih
  | ifc t v cv _ ih => exact .ifc t v cv ih
  | mref id b ag L h hb =>
    rcases ho id _ h with h' | ⟨hbk, o', ho', hk⟩
    · exact .deadM _ _ h' rfl
    · cases o' <;> simp [Ob.like] at hk
      subst hk
      exact .mref id b _ _ ho' (hbk.trans hb)
  | deadM id cv h h1 =>
    rcases ho id _ h with h' | ⟨_, o', ho', hk⟩
    · exact .deadM _ _ h' h1
    · cases o' <;> simp [Ob.like] at hk

theorem globA_rel {os os' : List Ob} {w w' : World} {Z Z' : Nat → Prop} {blk blk' : Blk} {g : Nat} {cv : Value} (h : RelV os w Z blk (globA g) cv)
    (hz : ∀ b, Z b → Z' b ∧ w'.heap[b]? = w.heap[b]?) : RelV os' w' Z' blk' (globA g) cv := by
  unfold globA at h ⊢
  generalize globT.lookup g = l at h ⊢
  cases l with
  | none => exact .undef _
  | some cs =>
    dsimp only at h ⊢
    cases h with
    | frz _ _ h => cases h
    | taddr cells b o f hzb hc ht => exact .taddr _ b o f (hz b hzb).1 (fun j x hx => by rw [cell?_eq_of_heap (hz b hzb).2]; exact hc j x hx) (fun j x hx => (ht j x hx).mono hz)


theorem Live.lt {os : List Ob} {i : Nat} (h : Live os i) : i < os.length := by
  obtain ⟨o, ho, _⟩ := h
  exact (List.getElem?_eq_some_iff.1 ho).1

theorem RelV.same {os : List Ob} {w w' : World} {Z : Nat → Prop} {blk : Blk} {v : AV} {cv : Value} (h : RelV os w Z blk v cv) (hw : w'.heap = w.heap) : RelV os w' Z blk v cv :=
  h.mono (fun b hb => ⟨hb, by rw [hw]⟩) (fun i o ho => by
    by_cases hg : o = .gone
    · subst hg; exact .inl ho
    · exact .inr ⟨rfl, o, ho, Ob.like_refl hg⟩)

theorem ObR.mono {os os' : List Ob} {w w' : World} {Z Z' : Nat → Prop} {blk blk' : Blk} {i : Nat} {o : Ob} (h : ObR os w Z blk i o)
    (hR : ∀ v cv, RelV os w Z blk v cv → RelV os' w' Z' blk' v cv) (hb : blk' i = blk i)
    (hk : ∀ b o c, blk i = some (b, o, c) → w'.heap[b]? = w.heap[b]?) : ObR os' w' Z' blk' i o := by
  cases o with
  | gone => trivial
  | var cells =>
    obtain ⟨b, cap, cur, t, h1, h2, h3, h4⟩ := h
    exact ⟨b, cap, cur, t, hb.trans h1, (hk _ _ _ h1).trans h2, h3, fun c v hv => hR _ _ (h4 c v hv)⟩
  | arr sz rows =>
    obtain ⟨h0, hr, h⟩ := h
    refine ⟨h0, hr, ?_⟩
    rcases h with ⟨h1, h2⟩ | ⟨b, o, cap, cur, t, h1, h2, h3, h4, h5, h6⟩
    · exact .inl ⟨hb.trans h1, h2⟩
    · exact .inr ⟨b, o, cap, cur, t, hb.trans h1, (hk _ _ _ h1).trans h2, h3, h4, h5, fun r c v hv => hR _ _ (h6 r c v hv)⟩
  | mp ag L =>
    obtain ⟨b, f, h1, h2, h3, h4⟩ := h
    exact ⟨b, f, hb.trans h1, (hk _ _ _ h1).trans h2, h3, fun j p hp => hR _ _ (h4 j p hp)⟩

theorem Sim.put {σ : St} {γ : Cx} (h : Sim σ γ) (d : Nat) (hd : d < γ.tmps.size) {v : AV} {cv : Value} (hv : RelV σ.objs γ.w γ.Z γ.blk v cv) :
    Sim { σ with env := upd σ.env d v } { γ with tmps := γ.tmps.setIfInBounds d cv } where
  slots := fun k => by
    simp only [upd]
    by_cases hk : k = d
    · subst hk
      simp [Array.getD_eq_getD_getElem?, hd]
      exact hv
    · simp only [hk, if_false, Array.getD_eq_getD_getElem?, Array.getElem?_setIfInBounds_ne (Ne.symm hk)]
      have := h.slots k
      simpa [Array.getD_eq_getD_getElem?] using this
  obs := h.obs
  inj := h.inj
  nz := h.nz
  zlt := h.zlt
  gl := h.gl

/-- the same heap -/
theorem Sim.sameHeap {σ : St} {γ : Cx} (h : Sim σ γ) {w' : World} (hw : w'.heap = γ.w.heap) : Sim σ { γ with w := w' } where
  slots := fun k => (h.slots k).same hw
  obs := fun i o ho => (h.obs i o ho).mono (fun v cv hv => hv.same hw) rfl (fun b _ _ _ => by rw [hw])
  inj := h.inj
  nz := h.nz
  zlt := fun b hb => by have := h.zlt b hb; simpa [hw] using this
  gl := fun g => (h.gl g).same hw

theorem Fr.sameHeap {a b : List Ob} {x y : Cx} (h : Fr a x b y) {w' : World} (hw : w'.heap = y.w.heap) (h1 : w'.os = y.w.os) (h2 : w'.tape = y.w.tape) (h3 : w'.output = y.w.output) (h4 : y.w.drawn ≤ w'.drawn := by first | exact Nat.le_refl _ | (simp; done) | omega) :
    Fr a x b { y with w := w' } :=
  h.trans ⟨h1, h2, h3, by simp [hw], fun _ _ _ => by simp [hw], fun _ h => h, fun _ h => .inl h, fun _ h => .inl h, Nat.le_refl _, fun _ _ ⟨o, ho, hg⟩ => ⟨rfl, o, o, ho, ho, Ob.like_refl hg⟩, h4⟩

theorem Fr.put {a b : List Ob} {x y : Cx} (h : Fr a x b y) (t : Array Value) : Fr a x b { y with tmps := t } := ⟨h.eos, h.tape, h.output, h.size, h.keep, h.z0, h.z1, h.own, h.len, h.old, h.drawn⟩

def updB (blk : Blk) (n : Nat) (x : Option (Nat × Nat × Nat)) : Blk := fun i => if i = n then x else blk i

/-- what the new object's cells must be -/
def ObNew (os : List Ob) (w : World) (Z : Nat → Prop) (blk : Blk) (o cap : Nat) (cur : Array Value) : Ob → Prop
  | .gone => True
  | .var cells => o = 0 ∧ cur.size = cells.length ∧ ∀ c v, cells[c]? = some v → RelV os w Z blk v (cur.getD c Go.undef)
  | .arr sz rows => 0 < sz ∧ (∀ row ∈ rows, row.length = sz) ∧ o + cap * sz ≤ cur.size ∧ rows.length ≤ cap ∧ cap ≤ maxLen ∧
        ∀ r c v, cellAt rows r c = some v → RelV os w Z blk v (cur.getD (o + (r * sz + c)) Go.undef)
  | .mp _ _ => False

theorem ObNew.obR {os os' : List Ob} {w w' : World} {Z Z' : Nat → Prop} {blk blk' : Blk} {i b o cap : Nat} {cur : Array Value} {t : TypeId} {ob : Ob} (h : ObNew os w Z blk o cap cur ob)
    (hR : ∀ v cv, RelV os w Z blk v cv → RelV os' w' Z' blk' v cv) (hb : blk' i = some (b, o, cap)) (hk : w'.heap[b]? = some (.cells cur t (0, 0))) : ObR os' w' Z' blk' i ob := by
  cases ob with
  | gone => trivial
  | var cells =>
    obtain ⟨h0, h1, h2⟩ := h
    subst h0
    exact ⟨b, cap, cur, t, hb, hk, h1, fun c v hv => hR _ _ (h2 c v hv)⟩
  | arr sz rows =>
    obtain ⟨h0, h1, h2, h3, h4, h5⟩ := h
    exact ⟨h0, h1, .inr ⟨b, o, cap, cur, t, hb, hk, h2, h3, h4, fun r c v hv => hR _ _ (h5 r c v hv)⟩⟩
  | mp ag L => exact h.elim

/-- A NEW OBJECT IN A NEW BLOCK -/
theorem Sim.pushX {σ : St} {γ : Cx} (h : Sim σ γ) {w' : World} {x : Obj} {cap : Nat} {ob : Ob}
    (hw : w'.heap = γ.w.heap.push x) (hob : ∀ os' w' blk', (∀ v cv, RelV σ.objs γ.w γ.Z γ.blk v cv → RelV os' w' γ.Z blk' v cv) → blk' σ.objs.length = some (γ.w.heap.size, 0, cap) → w'.heap[γ.w.heap.size]? = some x → ObR os' w' γ.Z blk' σ.objs.length ob) :
    Sim { σ with objs := σ.objs ++ [ob] } { γ with w := w', blk := updB γ.blk σ.objs.length (some (γ.w.heap.size, 0, cap)) } := by
  have hlt : ∀ b, b < γ.w.heap.size → w'.heap[b]? = γ.w.heap[b]? := fun b hb => by
    rw [hw, Array.getElem?_push, if_neg (by omega)]
  have hR : ∀ v cv, RelV σ.objs γ.w γ.Z γ.blk v cv → RelV (σ.objs ++ [ob]) w' γ.Z (updB γ.blk σ.objs.length (some (γ.w.heap.size, 0, cap))) v cv := fun v cv hv =>
    hv.mono (fun b hb => ⟨hb, hlt b (h.zlt b hb)⟩) (fun i o ho => by
      have hi : i < σ.objs.length := (List.getElem?_eq_some_iff.1 ho).1
      have ho' : (σ.objs ++ [ob])[i]? = some o := by rw [List.getElem?_append_left hi]; exact ho
      by_cases hgo : o = .gone
      · subst hgo; exact .inl ho'
      · exact .inr ⟨by simp [updB, Nat.ne_of_lt hi], o, ho', Ob.like_refl hgo⟩)
  have hlive : ∀ i, Live (σ.objs ++ [ob]) i → i = σ.objs.length ∨ Live σ.objs i := by
    rintro i ⟨o, ho, hgo⟩
    rcases Nat.lt_or_ge i σ.objs.length with hi | hi
    · rw [List.getElem?_append_left hi] at ho
      exact .inr ⟨o, ho, hgo⟩
    · left
      have := (List.getElem?_eq_some_iff.1 ho).1
      simp at this
      omega
  have hblt : ∀ i b o c, Live σ.objs i → γ.blk i = some (b, o, c) → b < γ.w.heap.size := by
    rintro i b o c ⟨x, hx, hgx⟩ hb
    have := h.obs i x hx
    cases x with
    | gone => exact absurd rfl hgx
    | var cells =>
      obtain ⟨b', cap', cur', t', h1, h2, _⟩ := this
      rw [hb] at h1; simp at h1
      obtain ⟨rfl, _⟩ := h1
      exact (Array.getElem?_eq_some_iff.1 h2).1
    | arr sz rows =>
      obtain ⟨_, _, ⟨h1, _⟩ | ⟨b', o', cap', cur', t', h1, h2, _⟩⟩ := this
      · rw [hb] at h1; simp at h1
      · rw [hb] at h1; simp at h1
        obtain ⟨rfl, _⟩ := h1
        exact (Array.getElem?_eq_some_iff.1 h2).1
    | mp ag L =>
      obtain ⟨b', f', h1, h2, _⟩ := this
      rw [hb] at h1; simp at h1
      obtain ⟨rfl, _⟩ := h1
      exact (Array.getElem?_eq_some_iff.1 h2).1
  refine ⟨fun k => hR _ _ (h.slots k), ?_, ?_, ?_, ?_, fun g => hR _ _ (h.gl g)⟩
  · intro i o ho
    rcases Nat.lt_or_ge i σ.objs.length with hi | hi
    · have ho' : σ.objs[i]? = some o := by rw [List.getElem?_append_left hi] at ho; exact ho
      by_cases hgo : o = .gone
      · subst hgo; trivial
      · refine (h.obs i o ho').mono hR (by simp [updB, Nat.ne_of_lt hi]) (fun b x c hb => hlt b (hblt i b x c ⟨o, ho', hgo⟩ hb))
    · have hi' : i = σ.objs.length := by
        have := (List.getElem?_eq_some_iff.1 ho).1
        simp at this
        omega
      subst hi'
      simp at ho
      subst ho
      exact hob _ _ _ hR (by simp [updB]) (by rw [hw]; simp)
  · intro i j b o c o' c' hi hj hbi hbj
    simp only [updB] at hbi hbj
    rcases hlive i hi with rfl | hi' <;> rcases hlive j hj with rfl | hj'
    · rfl
    · rw [if_pos rfl] at hbi
      rw [if_neg (Nat.ne_of_lt hj'.lt)] at hbj
      have := hblt _ _ _ _ hj' hbj
      simp at hbi
      omega
    · rw [if_pos rfl] at hbj
      rw [if_neg (Nat.ne_of_lt hi'.lt)] at hbi
      have := hblt _ _ _ _ hi' hbi
      simp at hbj
      omega
    · rw [if_neg (Nat.ne_of_lt hj'.lt)] at hbj
      rw [if_neg (Nat.ne_of_lt hi'.lt)] at hbi
      exact h.inj i j b o c o' c' hi' hj' hbi hbj
  · rintro b ⟨i, o, c, hi, hb⟩ hz
    simp only [updB] at hb
    rcases hlive i hi with rfl | hi'
    · rw [if_pos rfl] at hb
      simp at hb
      have := h.zlt b hz
      omega
    · rw [if_neg (Nat.ne_of_lt hi'.lt)] at hb
      exact h.nz b ⟨i, o, c, hi', hb⟩ hz
  · intro b hb
    have := h.zlt b hb
    rw [hw]; simp; omega

theorem Sim.push {σ : St} {γ : Cx} (h : Sim σ γ) {w' : World} {cur : Array Value} {t : TypeId} {cap : Nat} {ob : Ob}
    (hw : w'.heap = γ.w.heap.push (.cells cur t (0, 0))) (hob : ObNew σ.objs γ.w γ.Z γ.blk 0 cap cur ob) :
    Sim { σ with objs := σ.objs ++ [ob] } { γ with w := w', blk := updB γ.blk σ.objs.length (some (γ.w.heap.size, 0, cap)) } :=
  h.pushX hw fun _ _ _ hR hb hk => hob.obR hR hb hk

theorem Sim.blt {σ : St} {γ : Cx} (h : Sim σ γ) {i b o c : Nat} (hl : Live σ.objs i) (hb : γ.blk i = some (b, o, c)) : b < γ.w.heap.size := by
  obtain ⟨x, hx, hgx⟩ := hl
  have := h.obs i x hx
  cases x with
  | gone => exact absurd rfl hgx
  | var cells =>
    obtain ⟨b', cap', cur', t', h1, h2, _⟩ := this
    rw [hb] at h1; simp at h1
    obtain ⟨rfl, _⟩ := h1
    exact (Array.getElem?_eq_some_iff.1 h2).1
  | arr sz rows =>
    obtain ⟨_, _, ⟨h1, _⟩ | ⟨b', o', cap', cur', t', h1, h2, _⟩⟩ := this
    · rw [hb] at h1; simp at h1
    · rw [hb] at h1; simp at h1
      obtain ⟨rfl, _⟩ := h1
      exact (Array.getElem?_eq_some_iff.1 h2).1
  | mp ag L =>
    obtain ⟨b', f', h1, h2, _⟩ := this
    rw [hb] at h1; simp at h1
    obtain ⟨rfl, _⟩ := h1
    exact (Array.getElem?_eq_some_iff.1 h2).1

theorem Fr.pushX {σ : St} {γ : Cx} {w' : World} {x0 : Obj} {cap : Nat} (ob : Ob)
    (hw : w'.heap = γ.w.heap.push x0) (h1 : w'.os = γ.w.os) (h2 : w'.tape = γ.w.tape) (h3 : w'.output = γ.w.output) (h4 : γ.w.drawn ≤ w'.drawn := by first | exact Nat.le_refl _ | (simp; done) | omega) :
    Fr σ.objs γ (σ.objs ++ [ob]) { γ with w := w', blk := updB γ.blk σ.objs.length (some (γ.w.heap.size, 0, cap)) } where
  eos := h1
  tape := h2
  output := h3
  drawn := h4
  size := by rw [hw]; simp
  keep := fun b hb _ => by simp only [hw, Array.getElem?_push]; rw [if_neg (by omega)]
  z0 := fun _ h => h
  z1 := fun _ h => .inl h
  own := by
    rintro b ⟨i, o, c, ⟨x, hx, hgx⟩, hb⟩
    simp only [updB] at hb
    split at hb
    · simp at hb; right; omega
    · rename_i hne
      have hi : i < σ.objs.length := by have := (List.getElem?_eq_some_iff.1 hx).1; simp at this; omega
      rw [List.getElem?_append_left hi] at hx
      exact .inl ⟨i, o, c, ⟨x, hx, hgx⟩, hb⟩
  len := by simp
  old := by
    rintro i hi ⟨x, hx, hgx⟩
    have hx0 := hx
    rw [List.getElem?_append_left hi] at hx
    exact ⟨by simp [updB, Nat.ne_of_lt hi], x, x, hx, hx0, Ob.like_refl hgx⟩

theorem Fr.push {σ : St} {γ : Cx} {w' : World} {cur : Array Value} {t : TypeId} {cap : Nat} (ob : Ob)
    (hw : w'.heap = γ.w.heap.push (.cells cur t (0, 0))) (h1 : w'.os = γ.w.os) (h2 : w'.tape = γ.w.tape) (h3 : w'.output = γ.w.output) (h4 : γ.w.drawn ≤ w'.drawn := by first | exact Nat.le_refl _ | (simp; done) | omega) :
    Fr σ.objs γ (σ.objs ++ [ob]) { γ with w := w', blk := updB γ.blk σ.objs.length (some (γ.w.heap.size, 0, cap)) } := Fr.pushX ob hw h1 h2 h3 h4

/-- AN OBJECT IS GIVEN UP -/
theorem Sim.kill {σ : St} {γ : Cx} (h : Sim σ γ) (id : Nat) : Sim { σ with objs := σ.objs.set id .gone } γ := by
  have hR : ∀ v cv, RelV σ.objs γ.w γ.Z γ.blk v cv → RelV (σ.objs.set id .gone) γ.w γ.Z γ.blk v cv := fun v cv hv =>
    hv.mono (fun b hb => ⟨hb, rfl⟩) (fun i o ho => by
      have hi : i < σ.objs.length := (List.getElem?_eq_some_iff.1 ho).1
      rw [List.getElem?_set]
      by_cases hii : id = i
      · left; simp [hii, hi]
      · rw [if_neg hii]
        by_cases hgo : o = .gone
        · subst hgo; exact .inl ho
        · exact .inr ⟨rfl, o, ho, Ob.like_refl hgo⟩)
  have hlive : ∀ i, Live (σ.objs.set id .gone) i → Live σ.objs i := by
    rintro i ⟨o, ho, hgo⟩
    rw [List.getElem?_set] at ho
    split at ho
    · split at ho <;> simp at ho; exact absurd ho.symm hgo
    · exact ⟨o, ho, hgo⟩
  refine ⟨fun k => hR _ _ (h.slots k), ?_, fun i j b o c o' c' hi hj => h.inj i j b o c o' c' (hlive i hi) (hlive j hj), ?_, h.zlt, fun g => hR _ _ (h.gl g)⟩
  · intro i o ho
    rw [List.getElem?_set] at ho
    split at ho
    · split at ho <;> simp at ho
      subst ho
      trivial
    · exact (h.obs i o ho).mono hR rfl (fun _ _ _ _ => rfl)
  · rintro b ⟨i, o, c, hi, hb⟩
    exact h.nz b ⟨i, o, c, hlive i hi, hb⟩

theorem Fr.kill (os : List Ob) (γ : Cx) (id : Nat) : Fr os γ (os.set id .gone) γ where
  eos := rfl
  tape := rfl
  output := rfl
  size := Nat.le_refl _
  keep := fun _ _ _ => rfl
  z0 := fun _ h => h
  z1 := fun _ h => .inl h
  own := by
    rintro b ⟨i, o, c, ⟨x, hx, hgx⟩, hb⟩
    rw [List.getElem?_set] at hx
    split at hx
    · split at hx <;> simp at hx; exact absurd hx.symm hgx
    · exact .inl ⟨i, o, c, ⟨x, hx, hgx⟩, hb⟩
  len := by simp
  old := by
    rintro i hi ⟨x, hx, hgx⟩
    have hx0 := hx
    rw [List.getElem?_set] at hx
    split at hx
    · split at hx <;> simp at hx; exact absurd hx.symm hgx
    · exact ⟨rfl, x, x, hx, hx0, Ob.like_refl hgx⟩

/-- AN OBJECT'S CELLS ARE WRITTEN (its block, its shape stay) -/
theorem Sim.writeX {σ : St} {γ : Cx} (h : Sim σ γ) {id : Nat} {ob ob' : Ob} (ho : σ.objs[id]? = some ob) (hg : ob ≠ .gone) (hlk : ob.like ob') {b o cap : Nat} (hb : γ.blk id = some (b, o, cap))
    {w' : World} (hoth : ∀ k, k ≠ b → w'.heap[k]? = γ.w.heap[k]?) (hsz : w'.heap.size = γ.w.heap.size)
    (hob : ∀ os', (∀ v cv, RelV σ.objs γ.w γ.Z γ.blk v cv → RelV os' w' γ.Z γ.blk v cv) → ObR os' w' γ.Z γ.blk id ob') : Sim { σ with objs := σ.objs.set id ob' } { γ with w := w' } := by
  have hid : id < σ.objs.length := (List.getElem?_eq_some_iff.1 ho).1
  have hlv : Live σ.objs id := ⟨ob, ho, hg⟩
  have hg' : ob' ≠ .gone := by intro e; subst e; cases ob <;> simp [Ob.like] at hlk
  have hR : ∀ v cv, RelV σ.objs γ.w γ.Z γ.blk v cv → RelV (σ.objs.set id ob') w' γ.Z γ.blk v cv := fun v cv hv =>
    hv.mono (fun z hz => ⟨hz, hoth z (fun e => h.nz b ⟨id, o, cap, hlv, hb⟩ (e ▸ hz))⟩) (fun i x hx => by
      rw [List.getElem?_set]
      by_cases hii : id = i
      · subst hii
        rw [ho] at hx
        simp at hx
        subst hx
        right
        refine ⟨rfl, ob', by simp [hid], hlk⟩
      · rw [if_neg hii]
        by_cases hgo : x = .gone
        · subst hgo; exact .inl hx
        · exact .inr ⟨rfl, x, hx, Ob.like_refl hgo⟩)
  have hlive : ∀ i, Live (σ.objs.set id ob') i → Live σ.objs i := by
    rintro i ⟨x, hx, hgx⟩
    rw [List.getElem?_set] at hx
    split at hx
    · rename_i e; subst e; exact hlv
    · exact ⟨x, hx, hgx⟩
  refine ⟨fun k => hR _ _ (h.slots k), ?_, fun i j b o c o' c' hi hj => h.inj i j b o c o' c' (hlive i hi) (hlive j hj), ?_, fun z hz => by rw [hsz]; exact h.zlt z hz, fun g => hR _ _ (h.gl g)⟩
  · intro i x hx
    rw [List.getElem?_set] at hx
    by_cases hii : id = i
    · subst hii
      rw [if_pos rfl, if_pos hid] at hx
      simp at hx
      subst hx
      exact hob _ hR
    · rw [if_neg hii] at hx
      by_cases hgo : x = .gone
      · subst hgo; trivial
      · refine (h.obs i x hx).mono hR rfl (fun z y c hz => hoth z (fun e => hii ?_))
        subst e
        exact h.inj id i z o cap y c hlv ⟨x, hx, hgo⟩ hb hz
  · rintro z ⟨i, y, c, hi, hz⟩
    exact h.nz z ⟨i, y, c, hlive i hi, hz⟩

theorem Sim.write {σ : St} {γ : Cx} (h : Sim σ γ) {id : Nat} {ob ob' : Ob} (ho : σ.objs[id]? = some ob) (hg : ob ≠ .gone) (hlk : ob.like ob') {b o cap : Nat} (hb : γ.blk id = some (b, o, cap))
    {w' : World} {cur : Array Value} {t : TypeId} (hw : w'.heap[b]? = some (.cells cur t (0, 0))) (hoth : ∀ k, k ≠ b → w'.heap[k]? = γ.w.heap[k]?) (hsz : w'.heap.size = γ.w.heap.size)
    (hob : ObNew σ.objs γ.w γ.Z γ.blk o cap cur ob') : Sim { σ with objs := σ.objs.set id ob' } { γ with w := w' } :=
  h.writeX ho hg hlk hb hoth hsz fun _ hR => hob.obR hR hb hw

theorem Fr.write {σ : St} {γ : Cx} {id : Nat} {ob : Ob} (ob' : Ob) (ho : σ.objs[id]? = some ob) (hg : ob ≠ .gone) (hlk : ob.like ob') {b o cap : Nat} (hb : γ.blk id = some (b, o, cap))
    {w' : World} (hoth : ∀ k, k ≠ b → w'.heap[k]? = γ.w.heap[k]?) (hsz : w'.heap.size = γ.w.heap.size) (h1 : w'.os = γ.w.os) (h2 : w'.tape = γ.w.tape) (h3 : w'.output = γ.w.output) (h4 : γ.w.drawn ≤ w'.drawn := by first | exact Nat.le_refl _ | (simp; done) | omega) :
    Fr σ.objs γ (σ.objs.set id ob') { γ with w := w' } where
  eos := h1
  tape := h2
  output := h3
  drawn := h4
  size := by simp [hsz]
  keep := fun z _ hno => hoth z (fun e => hno ⟨id, o, cap, ⟨ob, ho, hg⟩, e ▸ hb⟩)
  z0 := fun _ h => h
  z1 := fun _ h => .inl h
  own := by
    rintro z ⟨i, y, c, ⟨x, hx, hgx⟩, hz⟩
    rw [List.getElem?_set] at hx
    split at hx
    · rename_i e; subst e; exact .inl ⟨id, y, c, ⟨ob, ho, hg⟩, hz⟩
    · exact .inl ⟨i, y, c, ⟨x, hx, hgx⟩, hz⟩
  len := by simp
  old := by
    rintro i hi ⟨x, hx, hgx⟩
    have hx0 := hx
    rw [List.getElem?_set] at hx
    split at hx
    · rename_i e; subst e; exact ⟨rfl, ob, ob', ho, by rw [List.getElem?_set]; simp [hi], hlk⟩
    · exact ⟨rfl, x, x, hx, hx0, Ob.like_refl hgx⟩

end Go.Am
end
section
namespace Go.Am

/-- what a type is, as far as the operations ask -/
structure Ty where
  kind : Nat
  size : Nat
  bytes : Nat
  elem : Nat
  len : Nat
  zero : Option (List Value)
  flds : List (Nat × Nat × Nat)

def kSlice : Nat := 1
def kArray : Nat := 2
def kStruct : Nat := 3
def kString : Nat := 4
def kInt : Nat := 5
def kBool : Nat := 6
def kPtr : Nat := 7
def kMap : Nat := 8
def kFunc : Nat := 9

def sizeT (P : Program) (t : TypeId) : Nat := match P.info? t with | some i => i.size | none => 0

def ty (P : Program) (t : TypeId) : Ty :=
  match P.info? t, P.underlying t with
  | some i, some d =>
    let base : Ty := { kind := 0, size := i.size, bytes := i.bytes, elem := 0, len := 0, zero := i.zero.map (·.cells.toList), flds := [] }
    match d with
    | .slice e => { base with kind := 1, elem := e }
    | .array n e => { base with kind := 2, elem := e, len := n }
    | .struct fs => { base with kind := 3, flds := fs.toList.map fun f => (f.offset, f.type, sizeT P f.type) }
    | .string => { base with kind := 4 }
    | .int _ => { base with kind := 5 }
    | .bool => { base with kind := 6 }
    | .pointer e => { base with kind := 7, elem := e }
    | .map _ e => { base with kind := 8, elem := e }
    | .func _ _ _ => { base with kind := 9 }
    | _ => base
  | _, _ => { kind := 99, size := 0, bytes := 0, elem := 0, len := 0, zero := none, flds := [] }

def Ty.isAgg (t : Ty) : Bool := t.kind == 2 || t.kind == 3

theorem ty_info {P : Program} {t : TypeId} (h : (ty P t).kind ≠ 99) : ∃ i d, P.info? t = some i ∧ P.underlying t = some d ∧ (ty P t).size = i.size ∧ (ty P t).bytes = i.bytes ∧ (ty P t).zero = i.zero.map (·.cells.toList) := by
  unfold ty at h ⊢
  cases hi : P.info? t with
  | none => simp [hi] at h
  | some i =>
    cases hd : P.underlying t with
    | none => simp [hi, hd] at h
    | some d =>
      refine ⟨i, d, rfl, rfl, ?_, ?_, ?_⟩ <;> cases d <;> rfl

theorem ty_slice {P : Program} {t : TypeId} (h : (ty P t).kind = 1) : P.underlying t = some (.slice (ty P t).elem) := by
  unfold ty at h ⊢
  cases hi : P.info? t <;> cases hd : P.underlying t <;> simp [hi, hd] at h ⊢
  rename_i i d
  cases d <;> simp at h ⊢

theorem ty_array {P : Program} {t : TypeId} (h : (ty P t).kind = 2) : P.underlying t = some (.array (ty P t).len (ty P t).elem) := by
  unfold ty at h ⊢
  cases hi : P.info? t <;> cases hd : P.underlying t <;> simp [hi, hd] at h ⊢
  rename_i i d
  cases d <;> simp at h ⊢

theorem ty_struct {P : Program} {t : TypeId} (h : (ty P t).kind = 3) : ∃ fs, P.underlying t = some (.struct fs) ∧ (ty P t).flds = fs.toList.map fun f => (f.offset, f.type, sizeT P f.type) := by
  unfold ty at h ⊢
  cases hi : P.info? t <;> cases hd : P.underlying t <;> simp [hi, hd] at h ⊢
  rename_i i d
  cases d <;> simp at h ⊢

theorem ty_bool {P : Program} {t : TypeId} (h : (ty P t).kind = 6) : P.underlying t = some .bool := by
  unfold ty at h
  cases hi : P.info? t <;> cases hd : P.underlying t <;> simp [hi, hd] at h ⊢
  rename_i i d
  cases d <;> simp at h ⊢

/-- operands -/
def litOf : Value → AV
  | .agg cs => .agg (cs.toList.map .lit)
  | v => .lit v

def ev (σ : St) : Operand → AV
  | .tmp t => σ.env t
  | .const v => litOf v
  | .func f => .fn f []
  | .global g => globA g

def St.put (σ : St) (dst : Option Tmp) (v : AV) : St :=
  match dst with
  | some d => { σ with env := upd σ.env d v }
  | none => σ

/-- a value of one cell -/
def scal : AV → Bool
  | .lit v => v.oneCell'
  | .tree .. | .taddr _ | .ref .. | .ptr .. | .fn .. | .bfn .. | .ifc .. | .mref .. => true
  | _ => false

def cellsOf : AV → List AV
  | .agg cs => cs
  | v => [v]

def setCells (cells : List AV) (c : Nat) : List AV → List AV
  | [] => cells
  | v :: vs => setCells (cells.set c v) (c + 1) vs

def fillA (place : Nat → Option (Nat × Nat)) (cells : List AV) : List (Nat × AV) → Option (List AV)
  | [] => some cells
  | (i, v) :: rest =>
    match place i with
    | none => none
    | some (off, size) => if (cellsOf v).length = size ∧ off + size ≤ cells.length then fillA place (setCells cells off (cellsOf v)) rest else none

def toRows (sz : Nat) : Nat → List AV → List (List AV)
  | 0, _ => []
  | n + 1, cs => cs.take sz :: toRows sz n (cs.drop sz)

/-- the row of an object at which an address stands -/
def rowOf (σ : St) (id r : Nat) : Option (List AV) :=
  match σ.objs[id]? with
  | some (.var cells) => if r = 0 then some cells else none
  | some (.arr _ rows) => rows[r]?
  | _ => none

def setRowOf (σ : St) (id r : Nat) (row : List AV) : St :=
  match σ.objs[id]? with
  | some (.var _) => { σ with objs := σ.objs.set id (.var row) }
  | some (.arr sz rows) => { σ with objs := σ.objs.set id (.arr sz (rows.set r row)) }
  | _ => σ

def loadA (t : Ty) (cells : List AV) (c : Nat) (K : AV → Prop) : Prop :=
  if t.isAgg then c + t.size ≤ cells.length ∧ K (.agg ((cells.drop c).take t.size))
  else match cells[c]? with
    | some v => K v
    | none => False

/-- cells that are numbers -/
def intsOf : List AV → Option (List Int)
  | [] => some []
  | .lit (.int .i64 a) :: r => (intsOf r).map (a :: ·)
  | _ => none

/-- two values of a type with n cells, all of them numbers, are compared cell by cell -/
def EqT (P : Program) (t : TypeId) (n : Nat) : Prop :=
  ∀ (w : World) (as bs : List Int), as.length = n → bs.length = n →
    (Op.equalIn 10000 t (.agg (as.map (Value.int .i64)).toArray) (.agg (bs.map (Value.int .i64)).toArray)).run P w = .ok (decide (as = bs)) w

def andK (k : IntKind) (a b : Int) : Int := k.wrap ((BitVec.ofInt k.bits a &&& BitVec.ofInt k.bits b).toNat)
def andI (a b : Int) : Int := IntKind.i64.wrap ((BitVec.ofInt 64 a &&& BitVec.ofInt 64 b).toNat)
theorem andK_i64 (a b : Int) : andK .i64 a b = andI a b := by unfold andK andI; rfl

/-- products and negations: of uint64 they wrap -/
def mulW (k : IntKind) (a b : Int) (K : Value → Prop) : Prop := if k = .u64 then K (.int k (k.wrap (a * b))) else (k.min ≤ a * b ∧ a * b ≤ k.max) ∧ K (.int k (a * b))
def negW (k : IntKind) (a : Int) (K : Value → Prop) : Prop := if k = .u64 then K (.int k (k.wrap (-a))) else (k.min ≤ -a ∧ -a ≤ k.max) ∧ K (.int k (-a))
theorem mulW_i64 {a b : Int} {K : Value → Prop} : mulW .i64 a b K = ((IntKind.i64.min ≤ a * b ∧ a * b ≤ IntKind.i64.max) ∧ K (.int .i64 (a * b))) := rfl
theorem mulW_u64 {a b : Int} {K : Value → Prop} : mulW .u64 a b K = K (.int .u64 (IntKind.u64.wrap (a * b))) := rfl
theorem negW_i64 {a : Int} {K : Value → Prop} : negW .i64 a K = ((IntKind.i64.min ≤ -a ∧ -a ≤ IntKind.i64.max) ∧ K (.int .i64 (-a))) := rfl
theorem negW_u64 {a : Int} {K : Value → Prop} : negW .u64 a K = K (.int .u64 (IntKind.u64.wrap (-a))) := rfl

def intW (op : BinOp) (k : IntKind) (a b : Int) (K : Value → Prop) : Prop :=
  match op with
  | .add => (k.min ≤ a + b ∧ a + b ≤ k.max) ∧ K (.int k (a + b))
  | .sub => (k.min ≤ a - b ∧ a - b ≤ k.max) ∧ K (.int k (a - b))
  | .mul => mulW k a b K
  | .quo => (0 ≤ a ∧ 0 < b ∧ a ≤ k.max) ∧ K (.int k (a / b))
  | .rem => b ≠ 0 ∧ K (.int k (a.tmod b))
  | .and => K (.int k (andK k a b))
  | .shr => (0 ≤ b ∧ b.toNat ≤ k.bits) ∧ K (.int k (a / 2 ^ b.toNat))
  | .eql => K (.bool (a == b))
  | .neq => K (.bool (a != b))
  | .lss => K (.bool (decide (a < b)))
  | .leq => K (.bool (decide (a ≤ b)))
  | .gtr => K (.bool (decide (a > b)))
  | .geq => K (.bool (decide (a ≥ b)))
  | _ => False

def pickV (t : Bool) : AV → AV → AV
  | .lit (.bool x), .lit (.bool y) => .lit (.bool (bif t then x else y))
  | a, b => if t then a else b

/-- the rows of a slice that is read -/
def srcRows (σ : St) : AV → Option (Nat × List (List AV))
  | .tree sz rows => some (sz, rows)
  | .ref id sz off len =>
    match σ.objs[id]? with
    | some (.arr sz' rows) => if sz' = sz then some (sz, (rows.drop off).take len) else none
    | _ => none
  | _ => none

/-- the slice that is appended to: its rows, and the state without it -/
def dstRows (σ : St) (sz : Nat) : AV → Option (List (List AV) × St)
  | .lit (.slice none 0 0) => some ([], σ)
  | .ref id sz' off len =>
    match σ.objs[id]? with
    | some (.arr sz'' rows) => if sz'' = sz' ∧ sz' = sz then some ((rows.drop off).take len, { σ with objs := σ.objs.set id .gone }) else none
    | _ => none
  | _ => none

end Go.Am
end
section
namespace Go.Am

variable (P : Program)

/-- keys of maps -/
def findA (l : List Int) : List (List Int × AV) → Nat → Option Nat
  | [], _ => none
  | p :: r, i => if p.1 = l then some i else findA l r (i + 1)
def getA (l : List Int) (L : List (List Int × AV)) : Option AV := (findA l L 0).bind fun i => (L[i]?).map (·.2)
def setA (l : List Int) (v : AV) (L : List (List Int × AV)) : List (List Int × AV) :=
  match findA l L 0 with
  | some i => L.set i (l, v)
  | none => L ++ [(l, v)]
/-- where a key stands, or would stand -/
def idxA (l : List Int) (L : List (List Int × AV)) : Nat := (findA l L 0).getD L.length
/-- the value with a number, replaced -/
def putA (n : Nat) (v : AV) (L : List (List Int × AV)) : List (List Int × AV) := L.set n ((L.getD n ([], .undef)).1, v)
def KeyM (P : Program) (t : TypeId) (ag : Nat) : Prop := ∃ kt et, P.underlying t = some (.map kt et) ∧ ∀ l : List Int, l.length = kLen ag →
  (∀ e w, (Instr.checkKey e 10000 kt (kV ag l)).run P w = .ok () w) ∧ (∀ w, (Instr.keyThatStays (kV ag l) (kV ag l)).run P w = .ok (kV ag l) w) ∧
  ∀ (f : Nat → Value) (L : List (List Int × AV)) w, (∀ p ∈ L, p.1.length = kLen ag) → (Instr.findKey kt (kV ag l) (mkEs (mpE ag f L)).toList).run P w = .ok ((findA l L 0).map fun i => (i, f i)) w
def zeroV (P : Program) (t : TypeId) : Option Value :=
  match P.info? t with
  | some i => i.zero
  | none => none
def kAg (P : Program) (t : TypeId) : Nat :=
  match P.underlying t with
  | some (.map kt _) => if (ty P kt).isAgg then (ty P kt).size else 0
  | _ => 0
def keyOf : AV → Option (Nat × List Int)
  | .lit (.int .i64 n) => some (0, [n])
  | .agg cs => (intsOf cs).map fun l => (l.length, l)
  | _ => none
/-- the map behind a reference -/
def mpOf (σ : St) : AV → Option (Nat × Nat × List (List Int × AV))
  | .mref id =>
    match σ.objs[id]? with
    | some (.mp ag L) => some (id, ag, L)
    | _ => none
  | _ => none

/-- a byte of a string -/
def strB (s : ByteArray) (n : Nat) : Int :=
  match s[n]? with
  | some b => b.toNat
  | none => 0
/-- no concrete type -/
def ifaceB (P : Program) (t : TypeId) : Bool :=
  match P.underlying t with
  | some (.interface _) => true
  | some _ => false
  | none => true


/-- THE OPERATIONS (all but calls of Go functions): what they ask, and the state behind them -/
def opW (o : Oper) (σ : St) (K : St → Prop) : Prop :=
  match o.op with
  | .move x | .assign x => K (σ.put o.dst (ev σ x))
  | .pick c a b =>
    match ev σ c with
    | .lit (.bool t) => K (σ.put o.dst (pickV t (ev σ a) (ev σ b)))
    | _ => False
  | .alloc e =>
    (ty P e).kind ≠ 99 ∧
    match (ty P e).zero with
    | some z => K (({ σ with objs := σ.objs ++ [.var (z.map .lit)] } : St).put o.dst (.ptr σ.objs.length 0 0))
    | none => False
  | .box _ x => (cellsOf (ev σ x)).all scal = true ∧ K (({ σ with objs := σ.objs ++ [.var (cellsOf (ev σ x))] } : St).put o.dst (.ptr σ.objs.length 0 0))
  | .build t parts =>
    match (ty P t).kind, (ty P t).zero with
    | 3, some z =>
      match fillA (fun i => ((ty P t).flds[i]?).map fun f => (f.1, f.2.2)) (z.map .lit) (parts.toList.map fun p => (p.1, ev σ p.2)) with
      | some cs => ((parts.toList.all fun p => (cellsOf (ev σ p.2)).all scal) = true ∧ ((ty P t).flds.all fun f => decide (0 < f.2.2)) = true) ∧ K (σ.put o.dst (.agg cs))
      | none => False
    | 2, some z =>
      match fillA (fun i => some (i * (ty P (ty P t).elem).size, (ty P (ty P t).elem).size)) (z.map .lit) (parts.toList.map fun p => (p.1, ev σ p.2)) with
      | some cs => ((parts.toList.all fun p => (cellsOf (ev σ p.2)).all scal) = true ∧ (ty P (ty P t).elem).kind ≠ 99) ∧ K (σ.put o.dst (.agg cs))
      | none => False
    | _, _ => False
  | .buildSlice t len parts =>
    match (ty P t).kind, (ty P (ty P t).elem).zero with
    | 1, some z =>
      match fillA (fun i => some (i * (ty P (ty P t).elem).size, (ty P (ty P t).elem).size)) ((List.range len).flatMap fun _ => z.map .lit) (parts.toList.map fun p => (p.1, ev σ p.2)) with
      | some cs => ((ty P (ty P t).elem).kind ≠ 99 ∧ 0 < (ty P (ty P t).elem).size ∧ z.length = (ty P (ty P t).elem).size ∧ len * (ty P (ty P t).elem).size ≤ 16777216 ∧ (parts.toList.all fun p => (cellsOf (ev σ p.2)).all scal) = true) ∧
          K (({ σ with objs := σ.objs ++ [.arr (ty P (ty P t).elem).size (toRows (ty P (ty P t).elem).size len cs)] } : St).put o.dst (.ref σ.objs.length (ty P (ty P t).elem).size 0 len))
      | none => False
    | _, _ => False
  | .load t a =>
    (ty P t).kind ≠ 99 ∧
    match ev σ a with
    | .ptr id r c =>
      match rowOf σ id r with
      | some row => loadA (ty P t) row c fun v => K (σ.put o.dst v)
      | none => False
    | .taddr cells => loadA (ty P t) cells 0 fun v => K (σ.put o.dst v)
    | _ => False
  | .store t a x =>
    (ty P t).kind ≠ 99 ∧
    match ev σ a with
    | .ptr id r c =>
      match rowOf σ id r with
      | some row => ((cellsOf (ev σ x)).length = (ty P t).size ∧ c + (ty P t).size ≤ row.length ∧ (cellsOf (ev σ x)).all scal = true) ∧ K ((setRowOf σ id r (setCells row c (cellsOf (ev σ x)))).put o.dst .undef)
      | none => False
    | _ => False
  | .nilCheck x =>
    match ev σ x with
    | .ptr id r c =>
      match σ.objs[id]? with
      | some .gone => False
      | some _ => K (σ.put o.dst (.ptr id r c))
      | none => False
    | .taddr cells => K (σ.put o.dst (.taddr cells))
    | _ => False
  | .binOp op t x y _ =>
    match ev σ x, ev σ y with
    | .lit (.int k a), .lit (.int k' b) => k = k' ∧ intW op k a b fun v => K (σ.put o.dst (.lit v))
    | .lit (.bool a), .lit (.bool b) =>
      (ty P t).kind = 6 ∧
      match op with
      | .eql => K (σ.put o.dst (.lit (.bool (a == b))))
      | .neq => K (σ.put o.dst (.lit (.bool (a != b))))
      | _ => False
    | .tree _ rows, .lit (.slice none 0 0) =>
      ((ty P t).kind = 1 ∧ 0 < rows.length) ∧
      match op with
      | .eql => K (σ.put o.dst (.lit (.bool false)))
      | .neq => K (σ.put o.dst (.lit (.bool true)))
      | _ => False
    | .lit (.slice a _ _), .lit (.slice none 0 0) =>
      (ty P t).kind = 1 ∧
      match op with
      | .eql => K (σ.put o.dst (.lit (.bool a.isNone)))
      | .neq => K (σ.put o.dst (.lit (.bool (!a.isNone))))
      | _ => False
    | .agg cs, .agg ds =>
      match intsOf cs, intsOf ds with
      | some as, some bs =>
        (EqT P t as.length ∧ bs.length = as.length ∧ P.eqGuardType P.depth t = false) ∧
        match op with
        | .eql => K (σ.put o.dst (.lit (.bool (decide (as = bs)))))
        | .neq => K (σ.put o.dst (.lit (.bool (!decide (as = bs)))))
        | _ => False
      | _, _ => False
    | _, _ => False
  | .unOp op _ x =>
    match op, ev σ x with
    | .not, .lit (.bool b) => K (σ.put o.dst (.lit (.bool !b)))
    | .neg, .lit (.int k a) => negW k a fun v => K (σ.put o.dst (.lit v))
    | _, _ => False
  | .makeFunc fn first captured =>
    match fn with
    | .func f => first.size = 0 ∧ K (σ.put o.dst (.fn f (captured.toList.map (ev σ))))
    | _ => False
  | .makeSlice t l c =>
    match (ty P t).kind, (ty P (ty P t).elem).zero, ev σ l, ev σ c with
    | 1, some z, .lit (.int k n), .lit (.int k' n') =>
      ((ty P (ty P t).elem).kind ≠ 99 ∧ 0 < (ty P (ty P t).elem).size ∧ z.length = (ty P (ty P t).elem).size ∧ n' = n ∧ 0 ≤ n ∧ n ≤ 1099511627776 ∧ (ty P (ty P t).elem).bytes ≤ 128 ∧ k = k) ∧
        K (({ σ with objs := σ.objs ++ [.arr (ty P (ty P t).elem).size (List.replicate n.toNat (z.map .lit))] } : St).put o.dst (.ref σ.objs.length (ty P (ty P t).elem).size 0 n.toNat)) ∧ k' = k'
    | _, _, _, _ => False
  | .slice t x lo hi mx =>
    (ty P t).kind = 1 ∧ (ty P (ty P t).elem).kind ≠ 99 ∧ mx = none ∧
    match ev σ x with
    | .ref id sz off len =>
      match σ.objs[id]? with
      | some (.arr sz' rows) =>
        sz' = sz ∧ sz = (ty P (ty P t).elem).size ∧
        match lo.map (ev σ), hi.map (ev σ) with
        | none, none => K (σ.put o.dst (.ref id sz off len))
        | some (.lit (.int _ l)), none => (0 ≤ l ∧ l ≤ len ∧ rows.length = rows.length) ∧ K (σ.put o.dst (.ref id sz (off + l.toNat) (len - l.toNat)))
        | none, some (.lit (.int _ h)) => (0 ≤ h ∧ h ≤ len) ∧ K (σ.put o.dst (.ref id sz off h.toNat))
        | some (.lit (.int _ l)), some (.lit (.int _ h)) => (0 ≤ l ∧ l ≤ h ∧ h ≤ len) ∧ K (σ.put o.dst (.ref id sz (off + l.toNat) (h.toNat - l.toNat)))
        | _, _ => False
      | _ => False
    | .tree sz rows =>
        (rows ≠ [] → sz = (ty P (ty P t).elem).size) ∧
        match lo.map (ev σ), hi.map (ev σ) with
        | none, none => K (σ.put o.dst (.tree sz rows))
        | some (.lit (.int _ l)), none => (0 ≤ l ∧ l ≤ rows.length) ∧ K (σ.put o.dst (.tree sz (rows.drop l.toNat)))
        | none, some (.lit (.int _ h)) => (0 ≤ h ∧ h ≤ rows.length) ∧ K (σ.put o.dst (.tree sz (rows.take h.toNat)))
        | some (.lit (.int _ l)), some (.lit (.int _ h)) => (0 ≤ l ∧ l ≤ h ∧ h ≤ rows.length) ∧ K (σ.put o.dst (.tree sz ((rows.take h.toNat).drop l.toNat)))
        | _, _ => False
    | _ => False
  | .fieldAddr s x f =>
    match (ty P s).kind, (ty P s).flds[f]? with
    | 3, some (off, _, size) =>
      0 < size ∧
      match ev σ x with
      | .ptr id r c =>
        match σ.objs[id]? with
        | some .gone => False
        | some _ => K (σ.put o.dst (.ptr id r (c + off)))
        | none => False
      | .taddr cells => K (σ.put o.dst (.taddr (cells.drop off)))
      | _ => False
    | _, _ => False
  | .field s x f =>
    match (ty P s).kind, (ty P s).flds[f]? with
    | 3, some (off, t, size) =>
      (ty P t).kind ≠ 99 ∧ size = (ty P t).size ∧
      match ev σ x with
      | .agg cs => if (ty P t).isAgg then off + size ≤ cs.length ∧ K (σ.put o.dst (.agg ((cs.drop off).take size))) else
          match cs[off]? with
          | some v => K (σ.put o.dst v)
          | none => False
      | _ => False
    | _, _ => False
  | .indexAddr t x i =>
    match (ty P t).kind, ev σ x, ev σ i with
    | 1, .ref id sz off len, .lit (.int _ n) =>
      match σ.objs[id]? with
      | some (.arr sz' _) => (sz' = sz ∧ sz = (ty P (ty P t).elem).size ∧ (ty P (ty P t).elem).kind ≠ 99 ∧ 0 ≤ n ∧ n < len) ∧ K (σ.put o.dst (.ptr id (off + n.toNat) 0))
      | _ => False
    | 1, .tree sz rows, .lit (.int _ n) => (sz = (ty P (ty P t).elem).size ∧ (ty P (ty P t).elem).kind ≠ 99 ∧ 0 ≤ n ∧ n < rows.length) ∧ K (σ.put o.dst (.taddr (rows.getD n.toNat [])))
    | 2, .ptr id r c, .lit (.int _ n) =>
      match σ.objs[id]? with
      | some .gone => False
      | some _ => ((ty P (ty P t).elem).kind ≠ 99 ∧ 0 ≤ n ∧ n < (ty P t).len) ∧ K (σ.put o.dst (.ptr id r (c + n.toNat * (ty P (ty P t).elem).size)))
      | none => False
    | 2, .taddr cells, .lit (.int _ n) => ((ty P (ty P t).elem).kind ≠ 99 ∧ 0 ≤ n ∧ n < (ty P t).len) ∧ K (σ.put o.dst (.taddr (cells.drop (n.toNat * (ty P (ty P t).elem).size))))
    | _, _, _ => False
  | .makeMap t r => (r = none ∧ (ty P t).kind = 8) ∧ K (({ σ with objs := σ.objs ++ [.mp (kAg P t) []] } : St).put o.dst (.mref σ.objs.length))
  | .lookup t x i ok =>
    match keyOf (ev σ i), mpOf σ (ev σ x), zeroV P (ty P t).elem with
    | some (ag, l), some (_, ag', L), some z => (KeyM P t ag ∧ ag' = ag ∧ l.length = kLen ag ∧ (ty P t).kind = 8 ∧ ok = false) ∧ K (σ.put o.dst ((getA l L).getD (.lit z)))
    | _, _, _ => False
  | .mapUpdate t m k x =>
    match keyOf (ev σ k), mpOf σ (ev σ m) with
    | some (ag, l), some (id, ag', L) => (KeyM P t ag ∧ ag' = ag ∧ l.length = kLen ag) ∧ K (({ σ with objs := σ.objs.set id (.mp ag (setA l (ev σ x) L)) } : St).put o.dst .undef)
    | _, _ => False
  | .mapEntry t m k =>
    match keyOf (ev σ k), mpOf σ (ev σ m), zeroV P (ty P t).elem with
    | some (ag, l), some (id, ag', L), some z => (KeyM P t ag ∧ ag' = ag ∧ l.length = kLen ag ∧ (ty P t).kind = 8) ∧
      K (({ σ with objs := σ.objs.set id (.mp ag (setA l ((getA l L).getD (.lit z)) L)) } : St).put o.dst (.tup [(getA l L).getD (.lit z), .lit (.int .i64 (idxA l L : Nat))]))
    | _, _, _ => False
  | .entryStore _ m s x =>
    match ev σ s, mpOf σ (ev σ m) with
    | .lit (.int .i64 n), some (id, ag, L) => (0 ≤ n ∧ n < L.length) ∧ K (({ σ with objs := σ.objs.set id (.mp ag (putA n.toNat (ev σ x) L)) } : St).put o.dst .undef)
    | _, _ => False
  | .index t x i =>
    match ev σ x, ev σ i with
    | .lit (.string s), .lit (.int _ n) => (P.underlying t = some .string ∧ 0 ≤ n ∧ n < s.size) ∧ K (σ.put o.dst (.lit (.int .u8 (strB s n.toNat))))
    | _, _ => False
  | .makeInterface t x => ifaceB P t = false ∧ K (σ.put o.dst (.ifc t (ev σ x)))
  | .typeAssert x _ asserted ok =>
    match ev σ x with
    | .ifc t v => (ifaceB P asserted = false ∧ t = asserted ∧ ok = false) ∧ K (σ.put o.dst v)
    | _ => False
  | .extract x i =>
    match ev σ x with
    | .tup vs =>
      match vs[i]? with
      | some v => K (σ.put o.dst v)
      | none => False
    | _ => False
  | .call { callee := .builtin .len, args, argTypes } =>
    match args.toList, argTypes.toList with
    | [x], [t] =>
      match ev σ x with
      | .ref id sz _ len =>
        (ty P t).kind = 1 ∧
        match σ.objs[id]? with
        | some (.arr sz' _) => sz' = sz ∧ K (σ.put o.dst (.lit (.int .i64 len)))
        | _ => False
      | .tree _ rows => (ty P t).kind = 1 ∧ K (σ.put o.dst (.lit (.int .i64 rows.length)))
      | .lit (.slice none 0 0) => (ty P t).kind = 1 ∧ K (σ.put o.dst (.lit (.int .i64 0)))
      | .mref id =>
        (ty P t).kind = 8 ∧
        match σ.objs[id]? with
        | some (.mp _ L) => K (σ.put o.dst (.lit (.int .i64 L.length)))
        | _ => False
      | _ => False
    | _, _ => False
  | .call { callee := .builtin .append, args, argTypes } =>
    match args.toList, argTypes.toList with
    | [s, x], [t, t'] =>
      match (ty P t).kind, (ty P (ty P t).elem).zero, dstRows σ (ty P (ty P t).elem).size (ev σ s), srcRows σ (ev σ x) with
      | 1, some z, some (pre, σ1), some (sz, src) =>
        (t' = t ∧ (ty P (ty P t).elem).kind ≠ 99 ∧ sz = (ty P (ty P t).elem).size ∧ 0 < sz ∧ z.length = sz ∧ pre.length + src.length ≤ 549755813888 ∧ (ty P (ty P t).elem).bytes ≤ 128 ∧ (src.all fun row => row.all scal) = true) ∧
          K (({ σ1 with objs := σ1.objs ++ [.arr sz (pre ++ src)] } : St).put o.dst (.ref σ1.objs.length sz 0 (pre.length + src.length)))
      | _, _, _, _ => False
    | _, _ => False
  | .call { callee := .builtin .min, args, argTypes := _ } =>
    match args.toList with
    | [x, y] =>
      match ev σ x, ev σ y with
      | .lit (.int k a), .lit (.int k' b) => k = k' ∧ K (σ.put o.dst (.lit (.int k (min a b))))
      | _, _ => False
    | _ => False
  | .call { callee := .builtin .max, args, argTypes := _ } =>
    match args.toList with
    | [x, y] =>
      match ev σ x, ev σ y with
      | .lit (.int k a), .lit (.int k' b) => k = k' ∧ K (σ.put o.dst (.lit (.int k (max a b))))
      | _, _ => False
    | _ => False
  | .call { callee := .builtin .copy, args, argTypes } =>
    match args.toList, argTypes.toList with
    | [s, x], [t, _] =>
      match ev σ s, srcRows σ (ev σ x) with
      | .ref id sz off len, some (sz', src) =>
        match σ.objs[id]? with
        | some (.arr sz'' rows) =>
          ((ty P t).kind = 1 ∧ (ty P (ty P t).elem).kind ≠ 99 ∧ sz' = sz ∧ sz'' = sz ∧ sz = (ty P (ty P t).elem).size ∧ 0 < sz ∧ (src.all fun row => row.all scal) = true) ∧
            K (({ σ with objs := σ.objs.set id (.arr sz (rows.take off ++ src.take (min src.length len) ++ rows.drop (off + min src.length len))) } : St).put o.dst (.lit (.int .i64 (min src.length len : Nat))))
        | _ => False
      | _, _ => False
    | _, _ => False
  | .call { callee := .builtin .clear, args, argTypes } =>
    match args.toList, argTypes.toList with
    | [s], [t] =>
      match ev σ s, (ty P (ty P t).elem).zero with
      | .ref id sz off len, some z =>
        match σ.objs[id]? with
        | some (.arr sz' rows) =>
          ((ty P t).kind = 1 ∧ (ty P (ty P t).elem).kind ≠ 99 ∧ sz' = sz ∧ z.length = sz ∧ 0 < sz ∧ (z.all fun u => u.oneCell') = true) ∧
            K (({ σ with objs := σ.objs.set id (.arr sz (rows.take off ++ List.replicate len (z.map AV.lit) ++ rows.drop (off + len))) } : St).put o.dst (.lit (.tuple #[])))
        | _ => False
      | _, _ => False
    | _, _ => False
  | .convert s d x =>
    match P.underlying d, ev σ x with
    | some (.int k), .lit (.int _ n) => (P.underlying s).isSome = true ∧ K (σ.put o.dst (.lit (.int k (k.wrap n))))
    | _, _ => False
  | _ => False

end Go.Am
end
section
namespace Go.Am
variable {P : Program}

/-- what an operation leaves -/
def OpOut (o : Oper) (σ : St) (γ : Cx) (a : Act) (K : St → Prop) (r : Result Next) : Prop :=
  ∃ n x w' σ' γ', r = .ok n w' ∧ (n = .value x ∨ (n = .skip ∧ x = Go.undef)) ∧ K σ' ∧ Sim σ' γ' ∧ Fr σ.objs γ σ'.objs γ' ∧ γ'.w = w' ∧ γ'.tmps = (a.put o.dst x).tmps

theorem RelV.lit {os : List Ob} {w : World} {Z : Nat → Prop} {blk : Blk} (v : Value) : RelV os w Z blk (.lit v) v := .frz _ _ (.lit v)

theorem RelV.lit_inv {os : List Ob} {w : World} {Z : Nat → Prop} {blk : Blk} {v cv : Value} (h : RelV os w Z blk (.lit v) cv) : cv = v := by
  cases h with
  | frz _ _ h => cases h; rfl

theorem RelV.tree_inv {os : List Ob} {w : World} {Z : Nat → Prop} {blk : Blk} {sz : Nat} {rows : List (List AV)} {cv : Value} (h : RelV os w Z blk (.tree sz rows) cv) : TreeR w Z (.tree sz rows) cv := by
  cases h with
  | frz _ _ h => exact h

theorem RelV.litOf {os : List Ob} {w : World} {Z : Nat → Prop} {blk : Blk} (v : Value) : RelV os w Z blk (litOf v) v := by
  unfold Am.litOf
  split
  · rename_i cs
    refine .agg _ _ (by simp) (fun j x hx => ?_)
    simp only [List.getElem?_map, Array.getElem?_toList] at hx
    cases hj : cs[j]? with
    | none => simp [hj] at hx
    | some y =>
      simp [hj] at hx
      subst hx
      simp [hj]
      exact .lit y
  · exact .lit v

theorem ev_rel {σ : St} {γ : Cx} (h : Sim σ γ) {a : Act} (ha : γ.tmps = a.tmps) (x : Operand) : RelV σ.objs γ.w γ.Z γ.blk (ev σ x) (a.eval x) := by
  cases x with
  | tmp t => have := h.slots t; rw [ha] at this; exact this
  | const v => exact .litOf v
  | global g => exact h.gl g
  | func f => exact .fn f [] #[] rfl (fun j x hx => by simp at hx)

theorem scal_one {os : List Ob} {w : World} {Z : Nat → Prop} {blk : Blk} {v : AV} {cv : Value} (h : RelV os w Z blk v cv) (hs : scal v = true) : cv.oneCell' = true := by
  cases h with
  | undef cv => simp [scal] at hs
  | frz v cv h => cases h <;> first | rfl | (simpa [scal] using hs)
  | taddr => rfl
  | deadRef id sz off len cv h h1 => exact h1
  | deadPtr id r c cv h h1 => exact h1
  | ref => rfl
  | refNil => rfl
  | refEnd => rfl
  | ptrV => rfl
  | ptrA => rfl
  | agg => simp [scal] at hs
  | tup => simp [scal] at hs
  | fn => rfl
  | bfn => rfl
  | ifc => rfl
  | mref => rfl
  | deadM id cv h h1 => exact h1

theorem put_sim {σ : St} {γ : Cx} (h : Sim σ γ) {a : Act} (ha : γ.tmps = a.tmps) {dst : Option Tmp} (hd : ∀ d, dst = some d → d < a.tmps.size) {v : AV} {cv : Value}
    (hv : RelV σ.objs γ.w γ.Z γ.blk v cv) : Sim (σ.put dst v) { γ with tmps := (a.put dst cv).tmps } := by
  cases dst with
  | none =>
    have : ({ γ with tmps := (a.put none cv).tmps } : Cx) = γ := by cases γ; simp_all [Act.put]
    rw [this]
    exact h
  | some d =>
    have := h.put d (by rw [ha]; exact hd d rfl) hv
    rw [ha] at this
    exact this

theorem objs_put (σ : St) (dst : Option Tmp) (v : AV) : (σ.put dst v).objs = σ.objs := by cases dst <;> rfl

/-- the end of an operation that gives a value and leaves the world -/
theorem out_put {o : Oper} {σ : St} {γ : Cx} {a : Act} {K : St → Prop} (h : Sim σ γ) (ha : γ.tmps = a.tmps) (hd : ∀ d, o.dst = some d → d < a.tmps.size) {v : AV} {cv : Value}
    (hv : RelV σ.objs γ.w γ.Z γ.blk v cv) (hK : K (σ.put o.dst v)) {r : Result Next} (hr : r = .ok (.value cv) γ.w) : OpOut o σ γ a K r :=
  ⟨.value cv, cv, γ.w, σ.put o.dst v, { γ with tmps := (a.put o.dst cv).tmps }, hr, .inl rfl, hK, put_sim h ha hd hv, by rw [objs_put]; exact (Fr.refl _ _).put _, rfl, rfl⟩

/-- the end of an operation that turns the objects, and then gives a value -/
theorem out_put' {o : Oper} {σ σ1 : St} {γ γ1 : Cx} {a : Act} {K : St → Prop} (hf : Fr σ.objs γ σ1.objs γ1) (h : Sim σ1 γ1) (ha : γ1.tmps = a.tmps) (hd : ∀ d, o.dst = some d → d < a.tmps.size) {v : AV} {cv : Value}
    (hv : RelV σ1.objs γ1.w γ1.Z γ1.blk v cv) (hK : K (σ1.put o.dst v)) {r : Result Next} (hr : r = .ok (.value cv) γ1.w) : OpOut o σ γ a K r :=
  ⟨.value cv, cv, γ1.w, σ1.put o.dst v, { γ1 with tmps := (a.put o.dst cv).tmps }, hr, .inl rfl, hK, put_sim h ha hd hv, by rw [objs_put]; exact hf.put _, rfl, rfl⟩

/-- the end of an operation that turns the objects and gives none -/
theorem out_skip {o : Oper} {σ σ1 : St} {γ γ1 : Cx} {a : Act} {K : St → Prop} (hf : Fr σ.objs γ σ1.objs γ1) (h : Sim σ1 γ1) (ha : γ1.tmps = a.tmps) (hd : ∀ d, o.dst = some d → d < a.tmps.size)
    (hK : K (σ1.put o.dst .undef)) {r : Result Next} (hr : r = .ok .skip γ1.w) : OpOut o σ γ a K r :=
  ⟨.skip, Go.undef, γ1.w, σ1.put o.dst .undef, { γ1 with tmps := (a.put o.dst Go.undef).tmps }, hr, .inr ⟨rfl, rfl⟩, hK, put_sim h ha hd (.undef _), by rw [objs_put]; exact hf.put _, rfl, rfl⟩

theorem wrap_in {k : IntKind} {n : Int} (h : k.min ≤ n ∧ n ≤ k.max) : k.wrap n = n := by
  cases k <;> simp [IntKind.min, IntKind.max, IntKind.signed, IntKind.bits] at h <;> simp [IntKind.wrap, IntKind.signed, IntKind.bits] <;> omega

theorem intW_sound {op : BinOp} {k : IntKind} {x y : Int} {K : Value → Prop} (h : intW op k x y K) (t : TypeId) (w : World) :
    ∃ v, (binOp op t (.int k x) (.int k y)).run P w = .ok v w ∧ K v := by
  cases op <;> simp only [intW] at h
  case add => exact ⟨_, by simp [binOp, Op.intArith, wrap_in h.1], h.2⟩
  case sub => exact ⟨_, by simp [binOp, Op.intArith, wrap_in h.1], h.2⟩
  case mul =>
    unfold mulW at h
    split at h
    · exact ⟨_, by simp [binOp, Op.intArith], h⟩
    · exact ⟨_, by simp [binOp, Op.intArith, wrap_in h.1], h.2⟩
  case quo =>
    refine ⟨_, ?_, h.2⟩
    obtain ⟨h0, hb, hm⟩ := h.1
    have hq : x.tdiv y = x / y := Int.tdiv_eq_ediv_of_nonneg h0
    have hle : x / y ≤ x := Int.ediv_le_self _ h0
    have hge : 0 ≤ x / y := Int.ediv_nonneg h0 (by omega)
    have hw : k.wrap (x / y) = x / y := wrap_in ⟨by cases k <;> simp [IntKind.min, IntKind.signed, IntKind.bits] <;> omega, by omega⟩
    have hne : ¬ y = 0 := by omega
    simp [binOp, Op.intDiv, hne, hq, hw]
  case rem => exact ⟨_, by simp [binOp, Op.intDiv, h.1], h.2⟩
  case and =>
    exact ⟨_, by simp [binOp, Op.intBits, andK], h⟩
  case shr =>
    refine ⟨_, ?_, h.2⟩
    obtain ⟨h0, h1⟩ := h.1
    have : ¬ y < 0 := by omega
    have e : (2 : Int) ^ y.toNat = ((2 ^ y.toNat : Nat) : Int) := by simp
    simp [binOp, Op.shift, this, Nat.min_eq_left h1]
    exact Int.fdiv_eq_ediv_of_nonneg _ (by rw [e]; exact Int.natCast_nonneg _)
  case eql => exact ⟨_, by simp [binOp, Op.intCmp], h⟩
  case neq => exact ⟨_, by simp [binOp, Op.intCmp], h⟩
  case lss => exact ⟨_, by simp [binOp, Op.intCmp], h⟩
  case leq => exact ⟨_, by simp [binOp, Op.intCmp], h⟩
  case gtr => exact ⟨_, by simp [binOp, Op.intCmp], h⟩
  case geq => exact ⟨_, by simp [binOp, Op.intCmp], h⟩

theorem intsOf_map : ∀ {cs : List AV} {as : List Int}, intsOf cs = some as → cs = as.map fun a => .lit (.int .i64 a)
  | [], as, h => by simp [intsOf] at h; subst h; rfl
  | c :: cs, as, h => by
    unfold intsOf at h
    split at h
    · rename_i e; simp at e
    · rename_i a r e
      simp only [List.cons.injEq] at e
      obtain ⟨rfl, rfl⟩ := e
      simp only [Option.map_eq_some_iff] at h
      obtain ⟨as', h, rfl⟩ := h
      rw [intsOf_map h]; rfl
    · simp at h

theorem agg_ints {os : List Ob} {w : World} {Z : Nat → Prop} {blk : Blk} {cs : List AV} {as : List Int} {cv : Value} (h : RelV os w Z blk (.agg cs) cv) (hi : intsOf cs = some as) : cv = .agg (as.map (Value.int .i64)).toArray := by
  have := intsOf_map hi
  subst this
  cases h with
  | frz _ _ h => cases h
  | agg _ cvs hs h =>
    congr 1
    refine Array.ext (by simpa using hs) (fun j h1 h2 => ?_)
    have hj : j < as.length := by simpa using h2
    have := (h j (.lit (.int .i64 as[j])) (by simp [hj])).lit_inv
    rw [Array.getD_eq_getD_getElem?, Array.getElem?_eq_getElem h1] at this
    simpa using this

theorem boolEq_run (t : TypeId) (w : World) (x y : Bool) (op : BinOp) (hop : op = .eql ∨ op = .neq) (ht : P.underlying t = some .bool) :
    (binOp op t (.bool x) (.bool y)).run P w = .ok (.bool (if op = .eql then (x == y) else (x != y))) w := by
  rcases hop with rfl | rfl
  · rw [run_eql_bool w t x y ht]; rfl
  · rw [run_neq_bool w t x y ht]; simp [bne]

end Go.Am
end
section
namespace Go.Am
variable {P : Program}

theorem run_isAgg {t : TypeId} (h : (ty P t).kind ≠ 99) (w : World) : (isAgg t).run P w = .ok (ty P t).isAgg w := by
  obtain ⟨i, d, hi, hd, _⟩ := ty_info h
  simp only [isAgg, Sem.run_bind, run_underlying hd, Result.andThen_ok]
  have : ty P t = ty P t := rfl
  cases d <;> simp [ty, hi, hd, Ty.isAgg]

theorem run_sizeOf {t : TypeId} (h : (ty P t).kind ≠ 99) (w : World) : (sizeOf t).run P w = .ok (ty P t).size w := by
  obtain ⟨i, d, hi, hd, hs, _⟩ := ty_info h
  simp [sizeOf, typeInfo, hi, hs]

theorem run_zero {t : TypeId} {z : List Value} (h : (ty P t).kind ≠ 99) (hz : (ty P t).zero = some z) (w : World) : ∃ v, (zeroValue t).run P w = .ok v w ∧ v.cells = z.toArray := by
  obtain ⟨i, d, hi, hd, _, _, h3⟩ := ty_info h
  rw [h3] at hz
  cases hv : i.zero with
  | none => simp [hv] at hz
  | some v =>
    simp [hv] at hz
    refine ⟨v, by simp [zeroValue, typeInfo, hi, hv], ?_⟩
    rw [← hz]

/-- where a pointer points, and what the row there holds -/
theorem ptr_row {σ : St} {γ : Cx} (h : Sim σ γ) {id r c : Nat} {cv : Value} {row : List AV} (hv : RelV σ.objs γ.w γ.Z γ.blk (.ptr id r c) cv) (hrow : rowOf σ id r = some row) :
    ∃ b base cap cur t o, cv = .pointer (some ⟨b, base + c, none⟩) ∧ γ.blk id = some (b, o, cap) ∧ γ.w.heap[b]? = some (.cells cur t (0, 0)) ∧ base + row.length ≤ cur.size ∧
      (∀ j v, row[j]? = some v → RelV σ.objs γ.w γ.Z γ.blk v (cur.getD (base + j) Go.undef)) ∧ Live σ.objs id ∧
      (∀ row' cur', row'.length = row.length → cur'.size = cur.size → (∀ j v, row'[j]? = some v → RelV σ.objs γ.w γ.Z γ.blk v (cur'.getD (base + j) Go.undef)) → (∀ k, (k < base ∨ base + row.length ≤ k) → cur'.getD k Go.undef = cur.getD k Go.undef) →
        ∃ ob ob', σ.objs[id]? = some ob ∧ ob ≠ .gone ∧ ob.like ob' ∧ (setRowOf σ id r row') = { σ with objs := σ.objs.set id ob' } ∧ ObNew σ.objs γ.w γ.Z γ.blk o cap cur' ob') := by
  unfold rowOf at hrow
  cases ho : σ.objs[id]? with
  | none => simp [ho] at hrow
  | some ob =>
    have hob := h.obs id ob ho
    cases ob with
    | gone => simp [ho] at hrow
    | mp ag L => simp [ho] at hrow
    | var cells =>
      simp only [ho] at hrow
      split at hrow
      · rename_i hr0
        subst hr0
        simp at hrow
        subst hrow
        obtain ⟨b, cap, cur, t, h1, h2, h3, h4⟩ := hob
        have hcv : cv = .pointer (some ⟨b, c, none⟩) := by
          cases hv with
          | frz _ _ h => cases h
          | deadPtr _ _ _ _ h => rw [ho] at h; simp at h
          | ptrV _ _ b' cap' cells' h hb => rw [h1] at hb; simp at hb; simp [hb.1]
          | ptrA _ _ _ sz b' o' cap' rows h hb => rw [ho] at h; simp at h
        refine ⟨b, 0, cap, cur, t, 0, by simpa using hcv, h1, h2, by omega, fun j v hj => by simpa using h4 j v hj, ⟨_, ho, by simp⟩, ?_⟩
        intro row' cur' hl hs hrel _
        refine ⟨.var cells, .var row', rfl, by simp, by simp [Ob.like, hl], by simp [setRowOf, ho], rfl, by omega, fun c v hc => by simpa using hrel c v hc⟩
      · simp at hrow
    | arr sz rows =>
      simp only [ho] at hrow
      obtain ⟨hsz, hrl, hob⟩ := hob
      have hrlen : row.length = sz := hrl row (List.mem_of_getElem? hrow)
      have hrlt : r < rows.length := (List.getElem?_eq_some_iff.1 hrow).1
      rcases hob with ⟨_, he⟩ | ⟨b, o, cap, cur, t, h1, h2, h3, h4, h5, h6⟩
      · subst he; simp at hrow
      · have hcv : cv = .pointer (some ⟨b, o + (r * sz + c), none⟩) := by
          cases hv with
          | frz _ _ h => cases h
          | deadPtr _ _ _ _ h => rw [ho] at h; simp at h
          | ptrV _ _ b' cap' cells' h hb => rw [ho] at h; simp at h
          | ptrA _ _ _ sz' b' o' cap' rows' h hb => rw [ho] at h; simp at h; rw [h1] at hb; simp at hb; simp [hb.1, hb.2.1, h.1]
        have hmul : r * sz + sz ≤ cap * sz := by
          have : (r + 1) * sz ≤ cap * sz := Nat.mul_le_mul_right _ (by omega)
          rw [Nat.add_mul] at this; omega
        refine ⟨b, o + r * sz, cap, cur, t, o, by rw [hcv]; simp [Nat.add_assoc], h1, h2, by omega, ?_, ⟨_, ho, by simp⟩, ?_⟩
        · intro j v hj
          have := h6 r j v (by simp [cellAt, hrow, hj])
          simpa [Nat.add_assoc] using this
        · intro row' cur' hl hs hrel hout
          refine ⟨.arr sz rows, .arr sz (rows.set r row'), rfl, by simp, by simp [Ob.like], by simp [setRowOf, ho], hsz, ?_, by omega, by simp [h4], h5, ?_⟩
          · intro x hx
            rcases List.mem_or_eq_of_mem_set hx with hx | rfl
            · exact hrl x hx
            · omega
          · intro r' c' v hc
            by_cases hrr : r = r'
            · subst hrr
              simp only [cellAt, List.getElem?_set, if_true, hrlt] at hc
              simp at hc
              have := hrel c' v hc
              simpa [Nat.add_assoc] using this
            · simp only [cellAt, List.getElem?_set, if_neg hrr] at hc
              have hold := h6 r' c' v hc
              have hc' : c' < sz := by
                simp only [Option.bind_eq_some_iff] at hc
                obtain ⟨x, hx, hxc⟩ := hc
                have := hrl x (List.mem_of_getElem? hx)
                have := (List.getElem?_eq_some_iff.1 hxc).1
                omega
              rw [hout _ ?_]
              · exact hold
              · rcases Nat.lt_or_gt_of_ne hrr with hlt | hgt
                · right
                  have : (r + 1) * sz ≤ r' * sz := Nat.mul_le_mul_right _ (by omega)
                  rw [Nat.add_mul] at this; omega
                · left
                  have : (r' + 1) * sz ≤ r * sz := Nat.mul_le_mul_right _ (by omega)
                  rw [Nat.add_mul] at this; omega

theorem Addr.add_none (b o n : Nat) : (⟨b, o, none⟩ : Addr).add n = ⟨b, o + n, none⟩ := by
  unfold Go.Addr.add; split <;> simp_all

theorem cell_getD {w : World} {b j : Nat} {cur : Array Value} {t : TypeId} {fr : Nat × Nat} (h : w.heap[b]? = some (.cells cur t fr)) (hj : j < cur.size) : w.cell? ⟨b, j, none⟩ = some (cur.getD j Go.undef) := by
  simp [World.cell?, h, hj, Array.getD_eq_getD_getElem?]

theorem run_loadVar_cells {w : World} {t : TypeId} (hk : (ty P t).kind ≠ 99) (b o : Nat) (f : Nat → Value)
    (hc : ∀ j, j < (if (ty P t).isAgg then (ty P t).size else 1) → w.cell? ⟨b, o + j, none⟩ = some (f j)) :
    (loadVar t ⟨b, o, none⟩).run P w = .ok (if (ty P t).isAgg then .agg ((List.range (ty P t).size).map f).toArray else f 0) w := by
  simp only [loadVar, Sem.run_bind, run_isAgg hk, Result.andThen_ok]
  by_cases ha : (ty P t).isAgg = true
  · simp only [ha, if_true, Sem.run_bind, run_sizeOf hk, Result.andThen_ok]
    rw [run_loadCells w ⟨b, o, none⟩ _ f (fun j hj => by rw [Addr.add_none]; exact hc j (by simpa [ha] using hj))]
    rfl
  · have hc0 := hc 0 (by simp [ha])
    simp only [Nat.add_zero] at hc0
    simp [ha, hc0]

end Go.Am
end
section
namespace Go.Am
variable {P : Program}

theorem setCells_length (cs : List AV) : ∀ (row : List AV) (c : Nat), (setCells row c cs).length = row.length := by
  induction cs with
  | nil => intro row c; rfl
  | cons v vs ih => intro row c; simp [setCells, ih]

theorem setCells_get (cs : List AV) : ∀ (row : List AV) (c : Nat), c + cs.length ≤ row.length → ∀ j, (setCells row c cs)[j]? = if c ≤ j ∧ j < c + cs.length then cs[j - c]? else row[j]? := by
  induction cs with
  | nil => intro row c _ j; simp [setCells]; intro h1 h2; omega
  | cons v vs ih =>
    intro row c hl j
    simp only [List.length_cons] at hl
    simp only [setCells, List.length_cons]
    rw [ih (row.set c v) (c + 1) (by simp; omega) j]
    by_cases h1 : c + 1 ≤ j ∧ j < c + 1 + vs.length
    · rw [if_pos h1, if_pos (by omega)]
      have : j - c = (j - (c + 1)) + 1 := by omega
      rw [this]; simp
    · rw [if_neg h1]
      by_cases h2 : j = c
      · subst h2
        rw [if_pos (by omega)]
        simp [show j < row.length by omega]
      · rw [if_neg (by omega), List.getElem?_set_ne (Ne.symm h2)]

theorem cells_rel {os : List Ob} {w : World} {Z : Nat → Prop} {blk : Blk} {v : AV} {cv : Value} (h : RelV os w Z blk v cv) (hs : (cellsOf v).all scal = true) :
    cv.cells.size = (cellsOf v).length ∧ (∀ j x, (cellsOf v)[j]? = some x → RelV os w Z blk x (cv.cells.getD j Go.undef)) ∧ ∀ c ∈ cv.cells, c.oneCell' = true := by
  by_cases hag : ∃ cs, v = .agg cs
  · obtain ⟨cs, rfl⟩ := hag
    simp only [cellsOf] at hs ⊢
    cases h with
    | frz _ _ h => cases h
    | agg _ cvs hsz hrel =>
      refine ⟨hsz, hrel, ?_⟩
      intro c hc
      simp only [Value.cells] at hc
      obtain ⟨j, hj, rfl⟩ := Array.mem_iff_getElem.1 hc
      have hx : cs[j]? = some cs[j] := by simp [← hsz, hj]
      have := hrel j _ hx
      have hg : cvs.getD j Go.undef = cvs[j] := by simp [Array.getD_eq_getD_getElem?, hj]
      rw [hg] at this
      exact scal_one this (by rw [List.all_eq_true] at hs; exact hs _ (List.mem_of_getElem? hx))
  · have hc1 : cellsOf v = [v] := by
      unfold cellsOf; split
      · exact absurd ⟨_, rfl⟩ hag
      · rfl
    rw [hc1] at hs ⊢
    simp at hs
    have ho := scal_one h hs
    have hcc : cv.cells = #[cv] := by cases cv <;> first | rfl | simp [Value.oneCell'] at ho
    rw [hcc]
    refine ⟨rfl, ?_, by simp [ho]⟩
    intro j x hx
    cases j with
    | zero => simp at hx; subst hx; simpa using h
    | succ j => simp at hx

section
variable {o : Oper} {σ : St} {γ : Cx} {a : Act} {K : St → Prop}

theorem load_ptr (hs : Sim σ γ) {t : TypeId} (hk : (ty P t).kind ≠ 99) {id r c : Nat} {cv : Value} (hv : RelV σ.objs γ.w γ.Z γ.blk (.ptr id r c) cv)
    {row : List AV} (hrow : rowOf σ id r = some row) {K : AV → Prop} (h : loadA (ty P t) row c K) :
    ∃ v cv', (Instr.loadAt t cv).run P γ.w = .ok cv' γ.w ∧ RelV σ.objs γ.w γ.Z γ.blk v cv' ∧ K v := by
  obtain ⟨b, base, cap, cur, tt, o, rfl, hb, hheap, hsz, hrel, _, _⟩ := ptr_row hs hv hrow
  unfold loadA at h
  simp only [Instr.loadAt, Instr.sureAddr, Sem.run_bind, Sem.run_pure, Result.andThen_ok]
  by_cases hag : (ty P t).isAgg = true
  · rw [if_pos hag] at h
    refine ⟨_, _, run_loadVar_cells hk b (base + c) (fun j => cur.getD (base + c + j) Go.undef) ?_, ?_, h.2⟩
    · intro j hj
      rw [if_pos hag] at hj
      exact cell_getD hheap (by omega)
    · rw [if_pos hag]
      refine .agg _ _ (by simp; omega) (fun j x hx => ?_)
      have hj : j < (ty P t).size := by have := (List.getElem?_eq_some_iff.1 hx).1; simp at this; omega
      rw [List.getElem?_take, if_pos hj, List.getElem?_drop] at hx
      have := hrel _ _ hx
      simp [Array.getD_eq_getD_getElem?, hj]
      simpa [Nat.add_assoc, Array.getD_eq_getD_getElem?] using this
  · rw [if_neg hag] at h
    cases hc : row[c]? with
    | none => simp [hc] at h
    | some v =>
      simp only [hc] at h
      have hcl := (List.getElem?_eq_some_iff.1 hc).1
      refine ⟨v, _, run_loadVar_cells hk b (base + c) (fun j => cur.getD (base + c + j) Go.undef) ?_, ?_, h⟩
      · intro j hj
        rw [if_neg hag] at hj
        exact cell_getD hheap (by omega)
      · rw [if_neg hag]
        exact hrel _ _ hc

theorem load_taddr (_hs : Sim σ γ) {t : TypeId} (hk : (ty P t).kind ≠ 99) {cells : List AV} {cv : Value} (hv : RelV σ.objs γ.w γ.Z γ.blk (.taddr cells) cv)
    {K : AV → Prop} (h : loadA (ty P t) cells 0 K) :
    ∃ v cv', (Instr.loadAt t cv).run P γ.w = .ok cv' γ.w ∧ RelV σ.objs γ.w γ.Z γ.blk v cv' ∧ K v := by
  cases hv with
  | frz _ _ h => cases h
  | taddr _ b o f hz hc ht =>
  unfold loadA at h
  simp only [Instr.loadAt, Instr.sureAddr, Sem.run_bind, Sem.run_pure, Result.andThen_ok]
  by_cases hag : (ty P t).isAgg = true
  · rw [if_pos hag] at h
    have hlen : (ty P t).size ≤ cells.length := by omega
    refine ⟨_, _, run_loadVar_cells hk b o f ?_, ?_, h.2⟩
    · intro j hj
      rw [if_pos hag] at hj
      exact hc j cells[j] (by simp)
    · rw [if_pos hag]
      refine .agg _ _ (by simp; omega) (fun j x hx => ?_)
      have hj : j < (ty P t).size := by have := (List.getElem?_eq_some_iff.1 hx).1; simp at this; omega
      rw [List.getElem?_take, if_pos hj, List.getElem?_drop] at hx
      simp at hx
      simp [Array.getD_eq_getD_getElem?, hj]
      exact .frz _ _ (ht j x hx)
  · rw [if_neg hag] at h
    cases hcc : cells[0]? with
    | none => simp [hcc] at h
    | some v =>
      simp only [hcc] at h
      refine ⟨v, _, run_loadVar_cells hk b o f ?_, ?_, h⟩
      · intro j hj
        rw [if_neg hag] at hj
        have : j = 0 := by omega
        subst this
        exact hc 0 v hcc
      · rw [if_neg hag]
        exact .frz _ _ (ht 0 v hcc)

theorem getD_splice (cur : Array Value) (p : Nat) (vs : List Value) (hp : p + vs.length ≤ cur.size) (k : Nat) :
    ((cur.toList.take p ++ vs ++ cur.toList.drop (p + vs.length)).toArray).getD k Go.undef = if p ≤ k ∧ k < p + vs.length then vs.getD (k - p) Go.undef else cur.getD k Go.undef := by
  simp only [Array.getD_eq_getD_getElem?, List.getElem?_toArray, List.getD_eq_getElem?_getD]
  by_cases h1 : k < p
  · rw [if_neg (by omega), List.append_assoc, List.getElem?_append_left (by simp; omega), List.getElem?_take, if_pos h1]
    simp
  · by_cases h2 : k < p + vs.length
    · rw [if_pos (by omega), List.getElem?_append_left (by simp; omega), List.getElem?_append_right (by simp; omega)]
      simp; congr 3; omega
    · rw [if_neg (by omega), List.getElem?_append_right (by simp; omega)]
      simp; congr 3; omega

theorem setRow_size (w : World) (g : Nat) (cs : Array Value) : (w.setRow g cs).heap.size = w.heap.size := by simp [World.setRow]

/-- a store through a pointer -/
theorem store_ptr (hs : Sim σ γ) {t : TypeId} (hk : (ty P t).kind ≠ 99) {id r c : Nat} {cv xv : Value} (hv : RelV σ.objs γ.w γ.Z γ.blk (.ptr id r c) cv)
    {row : List AV} (hrow : rowOf σ id r = some row) {v : AV} (hx : RelV σ.objs γ.w γ.Z γ.blk v xv)
    (h : (cellsOf v).length = (ty P t).size ∧ c + (ty P t).size ≤ row.length ∧ (cellsOf v).all scal = true) :
    ∃ w', (Instr.storeAt t cv xv).run P γ.w = .ok () w' ∧ Sim (setRowOf σ id r (setCells row c (cellsOf v))) { γ with w := w' } ∧ Fr σ.objs γ (setRowOf σ id r (setCells row c (cellsOf v))).objs { γ with w := w' } := by
  obtain ⟨b, base, cap, cur, tt, o, rfl, hb, hheap, hsz, hrel, hlv, hput⟩ := ptr_row hs hv hrow
  obtain ⟨h1, h2, h3⟩ := h
  obtain ⟨e1, e2, e3⟩ := cells_rel hx h3
  have hlen : xv.cells.toList.length = (ty P t).size := by simp [e1, h1]
  have hrun : (Instr.storeAt t (.pointer (some ⟨b, base + c, none⟩)) xv).run P γ.w = .ok () (γ.w.setRow b (cur.toList.take (base + c) ++ xv.cells.toList ++ cur.toList.drop (base + c + xv.cells.toList.length)).toArray) := by
    have hst := run_storeCells_at P b (base + c) tt xv.cells.toList 0 cur γ.w hheap (by rw [hlen]; omega) (fun x hx => e3 x (by simpa using hx))
    simp only [Nat.add_zero] at hst
    simp only [Instr.storeAt, Instr.sureAddr, Sem.run_bind, Sem.run_pure, Result.andThen_ok, storeVar, run_sizeOf hk]
    have : ¬ (xv.cells.size ≠ (ty P t).size) := by rw [e1, h1]; simp
    rw [if_neg this]
    simpa using hst
  obtain ⟨ob, ob', g1, g2, g3, g4, g5⟩ := hput (setCells row c (cellsOf v)) (cur.toList.take (base + c) ++ xv.cells.toList ++ cur.toList.drop (base + c + xv.cells.toList.length)).toArray
    (setCells_length _ _ _) (by simp [hlen]; omega) (by
      intro j x hj
      rw [setCells_get _ _ _ (by rw [h1]; exact h2)] at hj
      rw [getD_splice cur (base + c) xv.cells.toList (by rw [hlen]; omega), hlen]
      by_cases hin : c ≤ j ∧ j < c + (cellsOf v).length
      · rw [if_pos hin] at hj
        rw [if_pos (by omega)]
        have := e2 _ _ hj
        have e : base + j - (base + c) = j - c := by omega
        rw [e]
        simpa [List.getD_eq_getElem?_getD, Array.getD_eq_getD_getElem?] using this
      · rw [if_neg hin] at hj
        rw [if_neg (by omega)]
        exact hrel j x hj) (by
      intro k hk'
      rw [getD_splice cur (base + c) xv.cells.toList (by rw [hlen]; omega), hlen]
      rw [if_neg (by omega)])
  refine ⟨_, hrun, ?_, ?_⟩
  · rw [g4]
    exact hs.write g1 g2 g3 hb (setRow_heap γ.w b cur _ tt _ hheap) (fun k hk => setRow_other γ.w b k _ hk) (setRow_size _ _ _) g5
  · rw [g4]
    exact Fr.write ob' g1 g2 g3 hb (fun k hk => setRow_other γ.w b k _ hk) (setRow_size _ _ _) rfl rfl rfl

end
end Go.Am
end
section
namespace Go.Am
variable {P : Program}

/-- an object without a block: a nil slice -/
theorem Sim.pushNil {σ : St} {γ : Cx} (h : Sim σ γ) {sz : Nat} (hsz : 0 < sz) :
    Sim { σ with objs := σ.objs ++ [.arr sz []] } { γ with blk := updB γ.blk σ.objs.length none } := by
  have hR : ∀ v cv, RelV σ.objs γ.w γ.Z γ.blk v cv → RelV (σ.objs ++ [.arr sz []]) γ.w γ.Z (updB γ.blk σ.objs.length none) v cv := fun v cv hv =>
    hv.mono (fun b hb => ⟨hb, rfl⟩) (fun i o ho => by
      have hi : i < σ.objs.length := (List.getElem?_eq_some_iff.1 ho).1
      have ho' : (σ.objs ++ [.arr sz []])[i]? = some o := by rw [List.getElem?_append_left hi]; exact ho
      by_cases hgo : o = .gone
      · subst hgo; exact .inl ho'
      · exact .inr ⟨by simp [updB, Nat.ne_of_lt hi], o, ho', Ob.like_refl hgo⟩)
  have hlive : ∀ i b, updB γ.blk σ.objs.length none i = some b → Live (σ.objs ++ [.arr sz []]) i → Live σ.objs i ∧ γ.blk i = some b := by
    rintro i b hb ⟨o, ho, hgo⟩
    simp only [updB] at hb
    split at hb
    · simp at hb
    · rename_i hne
      have hi : i < σ.objs.length := by have := (List.getElem?_eq_some_iff.1 ho).1; simp at this; omega
      rw [List.getElem?_append_left hi] at ho
      exact ⟨⟨o, ho, hgo⟩, hb⟩
  refine ⟨fun k => hR _ _ (h.slots k), ?_, ?_, ?_, h.zlt, fun g => hR _ _ (h.gl g)⟩
  · intro i o ho
    rcases Nat.lt_or_ge i σ.objs.length with hi | hi
    · rw [List.getElem?_append_left hi] at ho
      exact (h.obs i o ho).mono hR (by simp [updB, Nat.ne_of_lt hi]) (fun _ _ _ _ => rfl)
    · have hi' : i = σ.objs.length := by have := (List.getElem?_eq_some_iff.1 ho).1; simp at this; omega
      subst hi'
      simp at ho
      subst ho
      exact ⟨hsz, by simp, .inl ⟨by simp [updB], rfl⟩⟩
  · intro i j b o c o' c' hi hj hbi hbj
    obtain ⟨hi1, hi2⟩ := hlive i _ hbi hi
    obtain ⟨hj1, hj2⟩ := hlive j _ hbj hj
    exact h.inj i j b o c o' c' hi1 hj1 hi2 hj2
  · rintro b ⟨i, o, c, hi, hb⟩
    obtain ⟨hi1, hi2⟩ := hlive i _ hb hi
    exact h.nz b ⟨i, o, c, hi1, hi2⟩

theorem Fr.pushNil (os : List Ob) (γ : Cx) (sz : Nat) : Fr os γ (os ++ [.arr sz []]) { γ with blk := updB γ.blk os.length none } where
  eos := rfl
  tape := rfl
  output := rfl
  size := Nat.le_refl _
  keep := fun _ _ _ => rfl
  z0 := fun _ h => h
  z1 := fun _ h => .inl h
  own := by
    rintro b ⟨i, o, c, ⟨x, hx, hgx⟩, hb⟩
    simp only [updB] at hb
    split at hb
    · simp at hb
    · have hi : i < os.length := by have := (List.getElem?_eq_some_iff.1 hx).1; simp at this; omega
      rw [List.getElem?_append_left hi] at hx
      exact .inl ⟨i, o, c, ⟨x, hx, hgx⟩, hb⟩
  len := by simp
  old := by
    rintro i hi ⟨x, hx, hgx⟩
    have hx0 := hx
    rw [List.getElem?_append_left hi] at hx
    exact ⟨by simp [updB, Nat.ne_of_lt hi], x, x, hx, hx0, Ob.like_refl hgx⟩

/-- THE BLOCK OF AN OBJECT GOES OVER TO A NEW ONE -/
theorem Sim.reown {σ : St} {γ : Cx} (h : Sim σ γ) {id : Nat} {ob ob' : Ob} (ho : σ.objs[id]? = some ob) (hg : ob ≠ .gone) {b o cap o' cap' : Nat} (hb : γ.blk id = some (b, o, cap))
    {w' : World} {cur : Array Value} {t : TypeId} (hw : w'.heap[b]? = some (.cells cur t (0, 0))) (hoth : ∀ k, k ≠ b → w'.heap[k]? = γ.w.heap[k]?) (hsz : w'.heap.size = γ.w.heap.size)
    (hob : ObNew σ.objs γ.w γ.Z γ.blk o' cap' cur ob') :
    Sim { σ with objs := σ.objs.set id .gone ++ [ob'] } { γ with w := w', blk := updB γ.blk σ.objs.length (some (b, o', cap')) } := by
  have hid : id < σ.objs.length := (List.getElem?_eq_some_iff.1 ho).1
  have hlv : Live σ.objs id := ⟨ob, ho, hg⟩
  have hR : ∀ v cv, RelV σ.objs γ.w γ.Z γ.blk v cv → RelV (σ.objs.set id .gone ++ [ob']) w' γ.Z (updB γ.blk σ.objs.length (some (b, o', cap'))) v cv := fun v cv hv =>
    hv.mono (fun z hz => ⟨hz, hoth z (fun e => h.nz b ⟨id, o, cap, hlv, hb⟩ (e ▸ hz))⟩) (fun i x hx => by
      have hi : i < σ.objs.length := (List.getElem?_eq_some_iff.1 hx).1
      rw [List.getElem?_append_left (by simpa using hi), List.getElem?_set]
      by_cases hii : id = i
      · left; simp [hii, hi]
      · rw [if_neg hii]
        by_cases hgo : x = .gone
        · subst hgo; exact .inl hx
        · exact .inr ⟨by simp [updB, Nat.ne_of_lt hi], x, hx, Ob.like_refl hgo⟩)
  have hlive : ∀ i, Live (σ.objs.set id .gone ++ [ob']) i → i = σ.objs.length ∨ (i < σ.objs.length ∧ i ≠ id ∧ Live σ.objs i) := by
    rintro i ⟨x, hx, hgx⟩
    rcases Nat.lt_or_ge i σ.objs.length with hi | hi
    · right
      rw [List.getElem?_append_left (by simpa using hi), List.getElem?_set] at hx
      split at hx
      · simp at hx; exact absurd hx.symm hgx
      · rename_i hne
        exact ⟨hi, Ne.symm hne, x, hx, hgx⟩
    · left
      have := (List.getElem?_eq_some_iff.1 hx).1
      simp at this; omega
  refine ⟨fun k => hR _ _ (h.slots k), ?_, ?_, ?_, fun z hz => by rw [hsz]; exact h.zlt z hz, fun g => hR _ _ (h.gl g)⟩
  · intro i x hx
    rcases Nat.lt_or_ge i σ.objs.length with hi | hi
    · rw [List.getElem?_append_left (by simpa using hi), List.getElem?_set] at hx
      split at hx
      · simp at hx; subst hx; trivial
      · rename_i hne
        by_cases hgo : x = .gone
        · subst hgo; trivial
        · refine (h.obs i x hx).mono hR (by simp [updB, Nat.ne_of_lt hi]) (fun z y c hz => hoth z (fun e => hne ?_))
          subst e
          exact h.inj id i z o cap y c hlv ⟨x, hx, hgo⟩ hb hz
    · have hi' : i = σ.objs.length := by have := (List.getElem?_eq_some_iff.1 hx).1; simp at this; omega
      subst hi'
      rw [List.getElem?_append_right (by simp)] at hx
      simp at hx
      subst hx
      exact hob.obR (b := b) (cap := cap') hR (by simp [updB]) hw
  · intro i j z y c y' c' hi hj hbi hbj
    simp only [updB] at hbi hbj
    rcases hlive i hi with rfl | ⟨hil, hine, hi'⟩ <;> rcases hlive j hj with rfl | ⟨hjl, hjne, hj'⟩
    · rfl
    · rw [if_pos rfl] at hbi
      rw [if_neg (Nat.ne_of_lt hjl)] at hbj
      simp at hbi
      rw [← hbi.1] at hbj
      exact absurd (h.inj j id b y' c' o cap hj' hlv hbj hb) hjne
    · rw [if_pos rfl] at hbj
      rw [if_neg (Nat.ne_of_lt hil)] at hbi
      simp at hbj
      rw [← hbj.1] at hbi
      exact absurd (h.inj i id b y c o cap hi' hlv hbi hb) hine
    · rw [if_neg (Nat.ne_of_lt hil)] at hbi
      rw [if_neg (Nat.ne_of_lt hjl)] at hbj
      exact h.inj i j z y c y' c' hi' hj' hbi hbj
  · rintro z ⟨i, y, c, hi, hz⟩ hzz
    simp only [updB] at hz
    rcases hlive i hi with rfl | ⟨hil, hine, hi'⟩
    · rw [if_pos rfl] at hz
      simp at hz
      rw [← hz.1] at hzz
      exact h.nz b ⟨id, o, cap, hlv, hb⟩ hzz
    · rw [if_neg (Nat.ne_of_lt hil)] at hz
      exact h.nz z ⟨i, y, c, hi', hz⟩ hzz

theorem Fr.reown {σ : St} {γ : Cx} {id : Nat} {ob : Ob} (ob' : Ob) (ho : σ.objs[id]? = some ob) (hg : ob ≠ .gone) {b o cap o' cap' : Nat} (hb : γ.blk id = some (b, o, cap))
    {w' : World} (hoth : ∀ k, k ≠ b → w'.heap[k]? = γ.w.heap[k]?) (hsz : w'.heap.size = γ.w.heap.size) (h1 : w'.os = γ.w.os) (h2 : w'.tape = γ.w.tape) (h3 : w'.output = γ.w.output) (h4 : γ.w.drawn ≤ w'.drawn := by first | exact Nat.le_refl _ | (simp; done) | omega) :
    Fr σ.objs γ (σ.objs.set id .gone ++ [ob']) { γ with w := w', blk := updB γ.blk σ.objs.length (some (b, o', cap')) } where
  eos := h1
  tape := h2
  output := h3
  drawn := h4
  size := by simp [hsz]
  keep := fun z _ hno => hoth z (fun e => hno ⟨id, o, cap, ⟨ob, ho, hg⟩, e ▸ hb⟩)
  z0 := fun _ h => h
  z1 := fun _ h => .inl h
  own := by
    rintro z ⟨i, y, c, ⟨x, hx, hgx⟩, hz⟩
    simp only [updB] at hz
    split at hz
    · simp at hz
      left
      exact ⟨id, o, cap, ⟨ob, ho, hg⟩, by rw [hb, hz.1]⟩
    · have hi : i < σ.objs.length := by have := (List.getElem?_eq_some_iff.1 hx).1; simp at this; omega
      rw [List.getElem?_append_left (by simpa using hi), List.getElem?_set] at hx
      split at hx
      · split at hx <;> simp at hx; exact absurd hx.symm hgx
      · exact .inl ⟨i, y, c, ⟨x, hx, hgx⟩, hz⟩
  len := by simp
  old := by
    rintro i hi ⟨x, hx, hgx⟩
    have hx0 := hx
    rw [List.getElem?_append_left (by simpa using hi), List.getElem?_set] at hx
    split at hx
    · split at hx <;> simp at hx; exact absurd hx.symm hgx
    · exact ⟨by simp [updB, Nat.ne_of_lt hi], x, x, hx, hx0, Ob.like_refl hgx⟩

/-- the cells of a slice that is read -/
theorem src_cells {σ : St} {γ : Cx} (h : Sim σ γ) {x : AV} {cv : Value} (hv : RelV σ.objs γ.w γ.Z γ.blk x cv) {sz : Nat} (hsz : 0 < sz) {src : List (List AV)} (hs : srcRows σ x = some (sz, src)) :
    ∃ ad c, ∃ g : Nat → Value, cv = .slice ad src.length c ∧ (∀ row ∈ src, row.length = sz) ∧ (0 < src.length → ∃ b o, ad = some ⟨b, o, none⟩ ∧ ∀ j, j < src.length * sz → γ.w.cell? ⟨b, o + j, none⟩ = some (g j)) ∧
      ∀ r c v, cellAt src r c = some v → RelV σ.objs γ.w γ.Z γ.blk v (g (r * sz + c)) := by
  cases x with
  | tree sz' rows =>
    simp [srcRows] at hs
    obtain ⟨rfl, rfl⟩ := hs
    cases hv.tree_inv with
    | nil _ cap a => exact ⟨a, cap, fun _ => Go.undef, rfl, by simp, by simp, by simp [cellAt]⟩
    | tree _ _ b o cap f hz hr hcap hc ht =>
      refine ⟨_, cap, fun j => f (j / sz') (j % sz'), rfl, hr, fun hlen => ⟨b, o, rfl, ?_⟩, ?_⟩
      · intro j hj
        have h1 : j / sz' < rows.length := Nat.div_lt_of_lt_mul (by rw [Nat.mul_comm]; exact hj)
        have h2 : j % sz' < sz' := Nat.mod_lt _ hsz
        have hrl : (rows[j / sz']).length = sz' := hr _ (List.getElem_mem h1)
        have := hc (j / sz') (j % sz') ((rows[j / sz'])[j % sz']'(by omega)) (by simp [cellAt, h1, h2, hrl])
        have e : j / sz' * sz' + j % sz' = j := by rw [Nat.mul_comm]; exact Nat.div_add_mod j sz'
        rw [e] at this
        exact this
      · intro r c v hcv
        have hcl : c < sz' := by
          simp only [cellAt, Option.bind_eq_some_iff] at hcv
          obtain ⟨y, hy, hyc⟩ := hcv
          have := hr y (List.mem_of_getElem? hy)
          have := (List.getElem?_eq_some_iff.1 hyc).1
          omega
        have e1 : (r * sz' + c) / sz' = r := by rw [Nat.mul_comm, Nat.mul_add_div hsz, Nat.div_eq_of_lt hcl]; rfl
        have e2 : (r * sz' + c) % sz' = c := by rw [Nat.mul_comm, Nat.mul_add_mod, Nat.mod_eq_of_lt hcl]
        simp only [e1, e2]
        exact .frz _ _ (ht r c v hcv)
  | ref id sz' off len =>
    simp only [srcRows] at hs
    cases ho : σ.objs[id]? with
    | none => simp [ho] at hs
    | some ob =>
      have hob := h.obs id ob ho
      cases ob with
      | gone => simp [ho] at hs
      | mp ag L => simp [ho] at hs
      | var cells => simp [ho] at hs
      | arr sz'' rows =>
        simp only [ho] at hs
        split at hs
        · rename_i he
          subst he
          simp at hs
          obtain ⟨rfl, rfl⟩ := hs
          obtain ⟨_, hrl, hob⟩ := hob
          cases hv with
          | frz _ _ h => cases h
          | deadRef _ _ _ _ _ h => rw [ho] at h; simp at h
          | refNil _ _ h hb =>
            rw [ho] at h; simp at h; subst h
            exact ⟨none, 0, fun _ => Go.undef, rfl, by simp, by simp, by simp [cellAt]⟩
          | refEnd _ _ _ b x bo rows' h hb hl =>
            exact ⟨some ⟨b, x, none⟩, 0, fun _ => Go.undef, by simp, by simp, by simp, by simp [cellAt]⟩
          | ref _ _ _ _ b o cap cap' rows' h hb hl hc hlc =>
            rw [ho] at h; simp at h
            subst h
            rcases hob with ⟨h1, _⟩ | ⟨b', o', cap'', cur, t, h1, h2, h3, h4, h5, h6⟩
            · rw [hb] at h1; simp at h1
            · rw [hb] at h1; simp at h1
              obtain ⟨rfl, rfl, rfl⟩ := h1
              have hlen : ((rows.drop off).take len).length = len := by simp; omega
              refine ⟨_, cap', fun j => cur.getD (o + off * sz'' + j) Go.undef, by rw [hlen], ?_, fun _ => ⟨b, o + off * sz'', rfl, ?_⟩, ?_⟩
              · intro row hrow
                exact hrl row (List.mem_of_mem_drop (List.mem_of_mem_take hrow))
              · intro j hj
                rw [hlen] at hj
                refine cell_getD h2 ?_
                have : (off + len) * sz'' ≤ cap * sz'' := Nat.mul_le_mul_right _ (by omega)
                rw [Nat.add_mul] at this
                omega
              · intro r c v hcv
                simp only [cellAt, List.getElem?_take, List.getElem?_drop] at hcv
                split at hcv
                · have := h6 (off + r) c v hcv
                  rw [Nat.add_mul] at this
                  have e : o + (off * sz'' + r * sz'' + c) = o + off * sz'' + (r * sz'' + c) := by omega
                  rw [e] at this
                  exact this
                · simp at hcv
        · simp at hs
  | _ => simp [srcRows] at hs

end Go.Am
end
