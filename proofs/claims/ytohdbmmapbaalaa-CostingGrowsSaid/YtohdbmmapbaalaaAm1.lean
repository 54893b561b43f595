import Derived.Orders
import Derived.Laws.AppendOwn
import Derived.Laws.MakeOwn
import Derived.Laws.Slices
import Derived.Laws.Small
namespace Go.Am

/-- abstract values -/
inductive AV where
  | undef
  | lit (v : Value)
  | tree (sz : Nat) (rows : List (List AV))
  | taddr (cells : List AV)
  | ref (id sz off len : Nat)
  | ptr (id r c : Nat)
  | agg (cs : List AV)
  | tup (vs : List AV)
  | fn (f : FuncId) (caps : List AV)
  deriving Inhabited

/-- objects of the activation: a variable's cells, or an array that it owns -/
inductive Ob where
  | gone
  | var (cells : List AV)
  | arr (sz : Nat) (rows : List (List AV))
  deriving Inhabited

structure St where
  env : Nat → AV
  objs : List Ob

def upd (e : Nat → AV) (d : Nat) (v : AV) : Nat → AV := fun k => if k = d then v else e k
def cellAt (rows : List (List AV)) (r c : Nat) : Option AV := (rows[r]?).bind (·[c]?)

/-- where an object lies: block, offset, capacity (in rows) -/
abbrev Blk := Nat → Option (Nat × Nat × Nat)

inductive TreeR (w : World) (Z : Nat → Prop) : AV → Value → Prop where
  | lit (v : Value) : TreeR w Z (.lit v) v
  | nil (sz cap : Nat) (a : Option Addr) : TreeR w Z (.tree sz []) (.slice a 0 cap)
  | tree (sz : Nat) (rows : List (List AV)) (b o cap : Nat) (f : Nat → Nat → Value) (hz : Z b) (hr : ∀ row ∈ rows, row.length = sz) (hcap : rows.length ≤ cap)
      (hc : ∀ r c x, cellAt rows r c = some x → w.cell? ⟨b, o + (r * sz + c), none⟩ = some (f r c))
      (ht : ∀ r c x, cellAt rows r c = some x → TreeR w Z x (f r c)) : TreeR w Z (.tree sz rows) (.slice (some ⟨b, o, none⟩) rows.length cap)

inductive RelV (os : List Ob) (w : World) (Z : Nat → Prop) (blk : Blk) : AV → Value → Prop where
  | undef (cv : Value) : RelV os w Z blk .undef cv
  | frz (v : AV) (cv : Value) (h : TreeR w Z v cv) : RelV os w Z blk v cv
  | taddr (cells : List AV) (b o : Nat) (f : Nat → Value) (hz : Z b) (hc : ∀ j x, cells[j]? = some x → w.cell? ⟨b, o + j, none⟩ = some (f j))
      (ht : ∀ j x, cells[j]? = some x → TreeR w Z x (f j)) : RelV os w Z blk (.taddr cells) (.pointer (some ⟨b, o, none⟩))
  | deadRef (id sz off len : Nat) (cv : Value) (h : os[id]? = some .gone) (h1 : cv.oneCell' = true) : RelV os w Z blk (.ref id sz off len) cv
  | deadPtr (id r c : Nat) (cv : Value) (h : os[id]? = some .gone) (h1 : cv.oneCell' = true) : RelV os w Z blk (.ptr id r c) cv
  | ref (id sz off len b o cap cap' : Nat) (rows : List (List AV)) (h : os[id]? = some (.arr sz rows)) (hb : blk id = some (b, o, cap))
      (hl : off + len ≤ rows.length) (hc : off + cap' ≤ cap) (hlc : len ≤ cap') : RelV os w Z blk (.ref id sz off len) (.slice (some ⟨b, o + off * sz, none⟩) len cap')
  | refNil (id sz : Nat) (h : os[id]? = some (.arr sz [])) (hb : blk id = none) : RelV os w Z blk (.ref id sz 0 0) (.slice none 0 0)
  | refEnd (id sz off b x : Nat) (bo : Nat × Nat) (rows : List (List AV)) (h : os[id]? = some (.arr sz rows)) (hb : blk id = some (b, bo)) (hl : off ≤ rows.length) :
      RelV os w Z blk (.ref id sz off 0) (.slice (some ⟨b, x, none⟩) 0 0)
  | ptrV (id c b cap : Nat) (cells : List AV) (h : os[id]? = some (.var cells)) (hb : blk id = some (b, 0, cap)) : RelV os w Z blk (.ptr id 0 c) (.pointer (some ⟨b, c, none⟩))
  | ptrA (id r c sz b o cap : Nat) (rows : List (List AV)) (h : os[id]? = some (.arr sz rows)) (hb : blk id = some (b, o, cap)) :
      RelV os w Z blk (.ptr id r c) (.pointer (some ⟨b, o + (r * sz + c), none⟩))
  | agg (cs : List AV) (cvs : Array Value) (hs : cvs.size = cs.length) (h : ∀ j x, cs[j]? = some x → RelV os w Z blk x (cvs.getD j Go.undef)) : RelV os w Z blk (.agg cs) (.agg cvs)
  | tup (cs : List AV) (cvs : Array Value) (hs : cvs.size = cs.length) (h : ∀ j x, cs[j]? = some x → RelV os w Z blk x (cvs.getD j Go.undef)) : RelV os w Z blk (.tup cs) (.tuple cvs)
  | fn (f : FuncId) (cs : List AV) (cvs : Array Value) (hs : cvs.size = cs.length) (h : ∀ j x, cs[j]? = some x → RelV os w Z blk x (cvs.getD j Go.undef)) :
      RelV os w Z blk (.fn f cs) (.func (.func f) #[] cvs)

/-- one object in memory -/
def ObR (os : List Ob) (w : World) (Z : Nat → Prop) (blk : Blk) (i : Nat) : Ob → Prop
  | .gone => True
  | .var cells => ∃ b cap cur t, blk i = some (b, 0, cap) ∧ w.heap[b]? = some (.cells cur t (0, 0)) ∧ cur.size = cells.length ∧
      ∀ c v, cells[c]? = some v → RelV os w Z blk v (cur.getD c Go.undef)
  | .arr sz rows => 0 < sz ∧ (∀ row ∈ rows, row.length = sz) ∧
      ((blk i = none ∧ rows = []) ∨ ∃ b o cap cur t, blk i = some (b, o, cap) ∧ w.heap[b]? = some (.cells cur t (0, 0)) ∧ o + cap * sz ≤ cur.size ∧ rows.length ≤ cap ∧ cap ≤ maxLen ∧
        ∀ r c v, cellAt rows r c = some v → RelV os w Z blk v (cur.getD (o + (r * sz + c)) Go.undef))

structure Cx where
  w : World
  tmps : Array Value
  Z : Nat → Prop
  blk : Blk

def Live (os : List Ob) (i : Nat) : Prop := ∃ o, os[i]? = some o ∧ o ≠ .gone
def Owned (os : List Ob) (blk : Blk) (b : Nat) : Prop := ∃ i o cap, Live os i ∧ blk i = some (b, o, cap)

structure Sim (σ : St) (γ : Cx) : Prop where
  slots : ∀ k, RelV σ.objs γ.w γ.Z γ.blk (σ.env k) (γ.tmps.getD k Go.undef)
  obs : ∀ (i : Nat) o, σ.objs[i]? = some o → ObR σ.objs γ.w γ.Z γ.blk i o
  inj : ∀ i j b o c o' c', Live σ.objs i → Live σ.objs j → γ.blk i = some (b, o, c) → γ.blk j = some (b, o', c') → i = j
  nz : ∀ b, Owned σ.objs γ.blk b → ¬ γ.Z b
  zlt : ∀ b, γ.Z b → b < γ.w.heap.size

/-- two objects of one shape -/
def Ob.like : Ob → Ob → Prop
  | .var a, .var b => a.length = b.length
  | .arr s a, .arr s' b => s = s' ∧ a.length = b.length
  | _, _ => False

theorem Ob.like_refl {o : Ob} (h : o ≠ .gone) : o.like o := by
  cases o <;> simp_all [Ob.like]

theorem Ob.like_trans {a b c : Ob} (h : a.like b) (k : b.like c) : a.like c := by
  cases a <;> cases b <;> cases c <;> simp_all [Ob.like]

theorem Ob.like_live {a b : Ob} (h : a.like b) : a ≠ .gone ∧ b ≠ .gone := by
  cases a <;> cases b <;> simp_all [Ob.like]

/-- what has become of the world since the activation began -/
structure Fr (os₀ : List Ob) (γ₀ : Cx) (os : List Ob) (γ : Cx) : Prop where
  eos : γ.w.os = γ₀.w.os
  tape : γ.w.tape = γ₀.w.tape
  output : γ.w.output = γ₀.w.output
  size : γ₀.w.heap.size ≤ γ.w.heap.size
  keep : ∀ b, b < γ₀.w.heap.size → ¬ Owned os₀ γ₀.blk b → γ.w.heap[b]? = γ₀.w.heap[b]?
  z0 : ∀ b, γ₀.Z b → γ.Z b
  z1 : ∀ b, γ.Z b → γ₀.Z b ∨ Owned os₀ γ₀.blk b ∨ γ₀.w.heap.size ≤ b
  own : ∀ b, Owned os γ.blk b → Owned os₀ γ₀.blk b ∨ γ₀.w.heap.size ≤ b
  len : os₀.length ≤ os.length
  old : ∀ i, i < os₀.length → Live os i → γ.blk i = γ₀.blk i ∧ ∃ o o', os₀[i]? = some o ∧ os[i]? = some o' ∧ o.like o'

theorem Fr.refl (os : List Ob) (γ : Cx) : Fr os γ os γ :=
  ⟨rfl, rfl, rfl, Nat.le_refl _, fun _ _ _ => rfl, fun _ h => h, fun _ h => .inl h, fun _ h => .inl h, Nat.le_refl _, fun _ _ ⟨o, ho, hg⟩ => ⟨rfl, o, o, ho, ho, Ob.like_refl hg⟩⟩

theorem Fr.trans {a b c : List Ob} {x y z : Cx} (h : Fr a x b y) (k : Fr b y c z) : Fr a x c z where
  eos := k.eos.trans h.eos
  tape := k.tape.trans h.tape
  output := k.output.trans h.output
  size := Nat.le_trans h.size k.size
  keep := fun n hn ho => (k.keep n (Nat.lt_of_lt_of_le hn h.size) (fun hw => (h.own n hw).elim ho (fun hl => by omega))).trans (h.keep n hn ho)
  z0 := fun n hn => k.z0 n (h.z0 n hn)
  z1 := fun n hn => by
    rcases k.z1 n hn with h1 | h1 | h1
    · exact h.z1 n h1
    · rcases h.own n h1 with h2 | h2
      · exact .inr (.inl h2)
      · exact .inr (.inr h2)
    · exact .inr (.inr (Nat.le_trans h.size h1))
  own := fun n hn => by
    rcases k.own n hn with h1 | h1
    · exact h.own n h1
    · exact .inr (Nat.le_trans h.size h1)
  len := Nat.le_trans h.len k.len
  old := fun i hi hl => by
    obtain ⟨h1, o, o', ho, ho', hk⟩ := k.old i (Nat.lt_of_lt_of_le hi h.len) hl
    obtain ⟨h3, x, x', hx, hx', hk'⟩ := h.old i hi ⟨o, ho, (Ob.like_live hk).1⟩
    rw [ho] at hx'
    simp at hx'
    subst hx'
    exact ⟨h1.trans h3, x, o', hx, ho', Ob.like_trans hk' hk⟩

theorem cell?_eq_of_heap {w w' : World} {b o : Nat} (h : w'.heap[b]? = w.heap[b]?) : w'.cell? ⟨b, o, none⟩ = w.cell? ⟨b, o, none⟩ := by
  simp [World.cell?, h]

theorem TreeR.mono {w w' : World} {Z Z' : Nat → Prop} {v : AV} {cv : Value} (h : TreeR w Z v cv) (hz : ∀ b, Z b → Z' b ∧ w'.heap[b]? = w.heap[b]?) : TreeR w' Z' v cv := by
  induction h with
  | lit v => exact .lit v
  | nil sz cap a => exact .nil sz cap a
  | tree sz rows b o cap f hzb hr hcap hc _ ih =>
    exact .tree sz rows b o cap f (hz b hzb).1 hr hcap (fun r c x hx => by rw [cell?_eq_of_heap (hz b hzb).2]; exact hc r c x hx) ih

theorem RelV.mono {os os' : List Ob} {w w' : World} {Z Z' : Nat → Prop} {blk blk' : Blk} {v : AV} {cv : Value} (h : RelV os w Z blk v cv)
    (hz : ∀ b, Z b → Z' b ∧ w'.heap[b]? = w.heap[b]?)
    (ho : ∀ i o, os[i]? = some o → os'[i]? = some .gone ∨ (blk' i = blk i ∧ ∃ o', os'[i]? = some o' ∧ o.like o')) : RelV os' w' Z' blk' v cv := by
  induction h with
  | undef cv => exact .undef cv
  | frz v cv h => exact .frz v cv (h.mono hz)
  | taddr cells b o f hzb hc ht =>
    exact .taddr cells b o f (hz b hzb).1 (fun j x hx => by rw [cell?_eq_of_heap (hz b hzb).2]; exact hc j x hx) (fun j x hx => (ht j x hx).mono hz)
  | deadRef id sz off len cv h h1 =>
    rcases ho id _ h with h' | ⟨_, o', _, hl⟩
    · exact .deadRef id sz off len cv h' h1
    · exact absurd hl (by simp [Ob.like])
  | deadPtr id r c cv h h1 =>
    rcases ho id _ h with h' | ⟨_, o', _, hl⟩
    · exact .deadPtr id r c cv h' h1
    · exact absurd hl (by simp [Ob.like])
  | ref id sz off len b o cap cap' rows h hb hl hc hlc =>
    rcases ho id _ h with h' | ⟨hbk, o', ho', hk⟩
    · exact .deadRef _ _ _ _ _ h' rfl
    · cases o' <;> simp [Ob.like] at hk
      obtain ⟨rfl, hk⟩ := hk
      exact .ref id sz off len b o cap cap' _ ho' (hbk.trans hb) (by omega) hc hlc
  | refNil id sz h hb =>
    rcases ho id _ h with h' | ⟨hbk, o', ho', hk⟩
    · exact .deadRef _ _ _ _ _ h' rfl
    · cases o' <;> simp [Ob.like] at hk
      obtain ⟨rfl, hk⟩ := hk
      have hk' := List.eq_nil_of_length_eq_zero hk.symm
      subst hk'
      exact .refNil id sz ho' (hbk.trans hb)
  | refEnd id sz off b x bo rows h hb hl =>
    rcases ho id _ h with h' | ⟨hbk, o', ho', hk⟩
    · exact .deadRef _ _ _ _ _ h' rfl
    · cases o' <;> simp [Ob.like] at hk
      obtain ⟨rfl, hk⟩ := hk
      exact .refEnd id sz off b x bo _ ho' (hbk.trans hb) (by omega)
  | ptrV id c b cap cells h hb =>
    rcases ho id _ h with h' | ⟨hbk, o', ho', hk⟩
    · exact .deadPtr _ _ _ _ h' rfl
    · cases o' <;> simp [Ob.like] at hk
      exact .ptrV id c b cap _ ho' (hbk.trans hb)
  | ptrA id r c sz b o cap rows h hb =>
    rcases ho id _ h with h' | ⟨hbk, o', ho', hk⟩
    · exact .deadPtr _ _ _ _ h' rfl
    · cases o' <;> simp [Ob.like] at hk
      obtain ⟨rfl, hk⟩ := hk
      exact .ptrA id r c sz b o cap _ ho' (hbk.trans hb)
  | agg cs cvs hs _ ih => exact .agg cs cvs hs ih
  | tup cs cvs hs _ ih => exact .tup cs cvs hs ih
  | fn f cs cvs hs _ ih => exact .fn f cs cvs hs ih

theorem Live.lt {os : List Ob} {i : Nat} (h : Live os i) : i < os.length := by
  obtain ⟨o, ho, _⟩ := h
  exact (List.getElem?_eq_some_iff.1 ho).1

theorem RelV.same {os : List Ob} {w w' : World} {Z : Nat → Prop} {blk : Blk} {v : AV} {cv : Value} (h : RelV os w Z blk v cv) (hw : w'.heap = w.heap) : RelV os w' Z blk v cv :=
  h.mono (fun b hb => ⟨hb, by rw [hw]⟩) (fun i o ho => by
    by_cases hg : o = .gone
    · subst hg; exact .inl ho
    · exact .inr ⟨rfl, o, ho, Ob.like_refl hg⟩)

theorem ObR.mono {os os' : List Ob} {w w' : World} {Z Z' : Nat → Prop} {blk blk' : Blk} {i : Nat} {o : Ob} (h : ObR os w Z blk i o)
    (hR : ∀ v cv, RelV os w Z blk v cv → RelV os' w' Z' blk' v cv) (hb : blk' i = blk i)
    (hk : ∀ b o c, blk i = some (b, o, c) → w'.heap[b]? = w.heap[b]?) : ObR os' w' Z' blk' i o := by
  cases o with
  | gone => trivial
  | var cells =>
    obtain ⟨b, cap, cur, t, h1, h2, h3, h4⟩ := h
    exact ⟨b, cap, cur, t, hb.trans h1, (hk _ _ _ h1).trans h2, h3, fun c v hv => hR _ _ (h4 c v hv)⟩
  | arr sz rows =>
    obtain ⟨h0, hr, h⟩ := h
    refine ⟨h0, hr, ?_⟩
    rcases h with ⟨h1, h2⟩ | ⟨b, o, cap, cur, t, h1, h2, h3, h4, h5, h6⟩
    · exact .inl ⟨hb.trans h1, h2⟩
    · exact .inr ⟨b, o, cap, cur, t, hb.trans h1, (hk _ _ _ h1).trans h2, h3, h4, h5, fun r c v hv => hR _ _ (h6 r c v hv)⟩

theorem Sim.put {σ : St} {γ : Cx} (h : Sim σ γ) (d : Nat) (hd : d < γ.tmps.size) {v : AV} {cv : Value} (hv : RelV σ.objs γ.w γ.Z γ.blk v cv) :
    Sim { σ with env := upd σ.env d v } { γ with tmps := γ.tmps.setIfInBounds d cv } where
  slots := fun k => by
    simp only [upd]
    by_cases hk : k = d
    · subst hk
      simp [Array.getD_eq_getD_getElem?, hd]
      exact hv
    · simp only [hk, if_false, Array.getD_eq_getD_getElem?, Array.getElem?_setIfInBounds_ne (Ne.symm hk)]
      have := h.slots k
      simpa [Array.getD_eq_getD_getElem?] using this
  obs := h.obs
  inj := h.inj
  nz := h.nz
  zlt := h.zlt

/-- the same heap -/
theorem Sim.sameHeap {σ : St} {γ : Cx} (h : Sim σ γ) {w' : World} (hw : w'.heap = γ.w.heap) : Sim σ { γ with w := w' } where
  slots := fun k => (h.slots k).same hw
  obs := fun i o ho => (h.obs i o ho).mono (fun v cv hv => hv.same hw) rfl (fun b _ _ _ => by rw [hw])
  inj := h.inj
  nz := h.nz
  zlt := fun b hb => by have := h.zlt b hb; simpa [hw] using this

theorem Fr.sameHeap {a b : List Ob} {x y : Cx} (h : Fr a x b y) {w' : World} (hw : w'.heap = y.w.heap) (h1 : w'.os = y.w.os) (h2 : w'.tape = y.w.tape) (h3 : w'.output = y.w.output) :
    Fr a x b { y with w := w' } :=
  h.trans ⟨h1, h2, h3, by simp [hw], fun _ _ _ => by simp [hw], fun _ h => h, fun _ h => .inl h, fun _ h => .inl h, Nat.le_refl _, fun _ _ ⟨o, ho, hg⟩ => ⟨rfl, o, o, ho, ho, Ob.like_refl hg⟩⟩

theorem Fr.put {a b : List Ob} {x y : Cx} (h : Fr a x b y) (t : Array Value) : Fr a x b { y with tmps := t } := ⟨h.eos, h.tape, h.output, h.size, h.keep, h.z0, h.z1, h.own, h.len, h.old⟩

def updB (blk : Blk) (n : Nat) (x : Option (Nat × Nat × Nat)) : Blk := fun i => if i = n then x else blk i

/-- what the new object's cells must be -/
def ObNew (os : List Ob) (w : World) (Z : Nat → Prop) (blk : Blk) (o cap : Nat) (cur : Array Value) : Ob → Prop
  | .gone => True
  | .var cells => o = 0 ∧ cur.size = cells.length ∧ ∀ c v, cells[c]? = some v → RelV os w Z blk v (cur.getD c Go.undef)
  | .arr sz rows => 0 < sz ∧ (∀ row ∈ rows, row.length = sz) ∧ o + cap * sz ≤ cur.size ∧ rows.length ≤ cap ∧ cap ≤ maxLen ∧
        ∀ r c v, cellAt rows r c = some v → RelV os w Z blk v (cur.getD (o + (r * sz + c)) Go.undef)

theorem ObNew.obR {os os' : List Ob} {w w' : World} {Z Z' : Nat → Prop} {blk blk' : Blk} {i b o cap : Nat} {cur : Array Value} {t : TypeId} {ob : Ob} (h : ObNew os w Z blk o cap cur ob)
    (hR : ∀ v cv, RelV os w Z blk v cv → RelV os' w' Z' blk' v cv) (hb : blk' i = some (b, o, cap)) (hk : w'.heap[b]? = some (.cells cur t (0, 0))) : ObR os' w' Z' blk' i ob := by
  cases ob with
  | gone => trivial
  | var cells =>
    obtain ⟨h0, h1, h2⟩ := h
    subst h0
    exact ⟨b, cap, cur, t, hb, hk, h1, fun c v hv => hR _ _ (h2 c v hv)⟩
  | arr sz rows =>
    obtain ⟨h0, h1, h2, h3, h4, h5⟩ := h
    exact ⟨h0, h1, .inr ⟨b, o, cap, cur, t, hb, hk, h2, h3, h4, fun r c v hv => hR _ _ (h5 r c v hv)⟩⟩

/-- A NEW OBJECT IN A NEW BLOCK -/
theorem Sim.push {σ : St} {γ : Cx} (h : Sim σ γ) {w' : World} {cur : Array Value} {t : TypeId} {cap : Nat} {ob : Ob}
    (hw : w'.heap = γ.w.heap.push (.cells cur t (0, 0))) (hob : ObNew σ.objs γ.w γ.Z γ.blk 0 cap cur ob) :
    Sim { σ with objs := σ.objs ++ [ob] } { γ with w := w', blk := updB γ.blk σ.objs.length (some (γ.w.heap.size, 0, cap)) } := by
  have hlt : ∀ b, b < γ.w.heap.size → w'.heap[b]? = γ.w.heap[b]? := fun b hb => by
    rw [hw, Array.getElem?_push, if_neg (by omega)]
  have hR : ∀ v cv, RelV σ.objs γ.w γ.Z γ.blk v cv → RelV (σ.objs ++ [ob]) w' γ.Z (updB γ.blk σ.objs.length (some (γ.w.heap.size, 0, cap))) v cv := fun v cv hv =>
    hv.mono (fun b hb => ⟨hb, hlt b (h.zlt b hb)⟩) (fun i o ho => by
      have hi : i < σ.objs.length := (List.getElem?_eq_some_iff.1 ho).1
      have ho' : (σ.objs ++ [ob])[i]? = some o := by rw [List.getElem?_append_left hi]; exact ho
      by_cases hgo : o = .gone
      · subst hgo; exact .inl ho'
      · exact .inr ⟨by simp [updB, Nat.ne_of_lt hi], o, ho', Ob.like_refl hgo⟩)
  have hlive : ∀ i, Live (σ.objs ++ [ob]) i → i = σ.objs.length ∨ Live σ.objs i := by
    rintro i ⟨o, ho, hgo⟩
    rcases Nat.lt_or_ge i σ.objs.length with hi | hi
    · rw [List.getElem?_append_left hi] at ho
      exact .inr ⟨o, ho, hgo⟩
    · left
      have := (List.getElem?_eq_some_iff.1 ho).1
      simp at this
      omega
  have hblt : ∀ i b o c, Live σ.objs i → γ.blk i = some (b, o, c) → b < γ.w.heap.size := by
    rintro i b o c ⟨x, hx, hgx⟩ hb
    have := h.obs i x hx
    cases x with
    | gone => exact absurd rfl hgx
    | var cells =>
      obtain ⟨b', cap', cur', t', h1, h2, _⟩ := this
      rw [hb] at h1; simp at h1
      obtain ⟨rfl, _⟩ := h1
      exact (Array.getElem?_eq_some_iff.1 h2).1
    | arr sz rows =>
      obtain ⟨_, _, ⟨h1, _⟩ | ⟨b', o', cap', cur', t', h1, h2, _⟩⟩ := this
      · rw [hb] at h1; simp at h1
      · rw [hb] at h1; simp at h1
        obtain ⟨rfl, _⟩ := h1
        exact (Array.getElem?_eq_some_iff.1 h2).1
  refine ⟨fun k => hR _ _ (h.slots k), ?_, ?_, ?_, ?_⟩
  · intro i o ho
    rcases Nat.lt_or_ge i σ.objs.length with hi | hi
    · have ho' : σ.objs[i]? = some o := by rw [List.getElem?_append_left hi] at ho; exact ho
      by_cases hgo : o = .gone
      · subst hgo; trivial
      · refine (h.obs i o ho').mono hR (by simp [updB, Nat.ne_of_lt hi]) (fun b x c hb => hlt b (hblt i b x c ⟨o, ho', hgo⟩ hb))
    · have hi' : i = σ.objs.length := by
        have := (List.getElem?_eq_some_iff.1 ho).1
        simp at this
        omega
      subst hi'
      simp at ho
      subst ho
      exact hob.obR (b := γ.w.heap.size) (cap := cap) hR (by simp [updB]) (t := t) (by rw [hw]; simp)
  · intro i j b o c o' c' hi hj hbi hbj
    simp only [updB] at hbi hbj
    rcases hlive i hi with rfl | hi' <;> rcases hlive j hj with rfl | hj'
    · rfl
    · rw [if_pos rfl] at hbi
      rw [if_neg (Nat.ne_of_lt hj'.lt)] at hbj
      have := hblt _ _ _ _ hj' hbj
      simp at hbi
      omega
    · rw [if_pos rfl] at hbj
      rw [if_neg (Nat.ne_of_lt hi'.lt)] at hbi
      have := hblt _ _ _ _ hi' hbi
      simp at hbj
      omega
    · rw [if_neg (Nat.ne_of_lt hj'.lt)] at hbj
      rw [if_neg (Nat.ne_of_lt hi'.lt)] at hbi
      exact h.inj i j b o c o' c' hi' hj' hbi hbj
  · rintro b ⟨i, o, c, hi, hb⟩ hz
    simp only [updB] at hb
    rcases hlive i hi with rfl | hi'
    · rw [if_pos rfl] at hb
      simp at hb
      have := h.zlt b hz
      omega
    · rw [if_neg (Nat.ne_of_lt hi'.lt)] at hb
      exact h.nz b ⟨i, o, c, hi', hb⟩ hz
  · intro b hb
    have := h.zlt b hb
    rw [hw]; simp; omega

theorem Sim.blt {σ : St} {γ : Cx} (h : Sim σ γ) {i b o c : Nat} (hl : Live σ.objs i) (hb : γ.blk i = some (b, o, c)) : b < γ.w.heap.size := by
  obtain ⟨x, hx, hgx⟩ := hl
  have := h.obs i x hx
  cases x with
  | gone => exact absurd rfl hgx
  | var cells =>
    obtain ⟨b', cap', cur', t', h1, h2, _⟩ := this
    rw [hb] at h1; simp at h1
    obtain ⟨rfl, _⟩ := h1
    exact (Array.getElem?_eq_some_iff.1 h2).1
  | arr sz rows =>
    obtain ⟨_, _, ⟨h1, _⟩ | ⟨b', o', cap', cur', t', h1, h2, _⟩⟩ := this
    · rw [hb] at h1; simp at h1
    · rw [hb] at h1; simp at h1
      obtain ⟨rfl, _⟩ := h1
      exact (Array.getElem?_eq_some_iff.1 h2).1

theorem Fr.push {σ : St} {γ : Cx} {w' : World} {cur : Array Value} {t : TypeId} {cap : Nat} (ob : Ob)
    (hw : w'.heap = γ.w.heap.push (.cells cur t (0, 0))) (h1 : w'.os = γ.w.os) (h2 : w'.tape = γ.w.tape) (h3 : w'.output = γ.w.output) :
    Fr σ.objs γ (σ.objs ++ [ob]) { γ with w := w', blk := updB γ.blk σ.objs.length (some (γ.w.heap.size, 0, cap)) } where
  eos := h1
  tape := h2
  output := h3
  size := by rw [hw]; simp
  keep := fun b hb _ => by simp only [hw, Array.getElem?_push]; rw [if_neg (by omega)]
  z0 := fun _ h => h
  z1 := fun _ h => .inl h
  own := by
    rintro b ⟨i, o, c, ⟨x, hx, hgx⟩, hb⟩
    simp only [updB] at hb
    split at hb
    · simp at hb; right; omega
    · rename_i hne
      have hi : i < σ.objs.length := by have := (List.getElem?_eq_some_iff.1 hx).1; simp at this; omega
      rw [List.getElem?_append_left hi] at hx
      exact .inl ⟨i, o, c, ⟨x, hx, hgx⟩, hb⟩
  len := by simp
  old := by
    rintro i hi ⟨x, hx, hgx⟩
    have hx0 := hx
    rw [List.getElem?_append_left hi] at hx
    exact ⟨by simp [updB, Nat.ne_of_lt hi], x, x, hx, hx0, Ob.like_refl hgx⟩

/-- AN OBJECT IS GIVEN UP -/
theorem Sim.kill {σ : St} {γ : Cx} (h : Sim σ γ) (id : Nat) : Sim { σ with objs := σ.objs.set id .gone } γ := by
  have hR : ∀ v cv, RelV σ.objs γ.w γ.Z γ.blk v cv → RelV (σ.objs.set id .gone) γ.w γ.Z γ.blk v cv := fun v cv hv =>
    hv.mono (fun b hb => ⟨hb, rfl⟩) (fun i o ho => by
      have hi : i < σ.objs.length := (List.getElem?_eq_some_iff.1 ho).1
      rw [List.getElem?_set]
      by_cases hii : id = i
      · left; simp [hii, hi]
      · rw [if_neg hii]
        by_cases hgo : o = .gone
        · subst hgo; exact .inl ho
        · exact .inr ⟨rfl, o, ho, Ob.like_refl hgo⟩)
  have hlive : ∀ i, Live (σ.objs.set id .gone) i → Live σ.objs i := by
    rintro i ⟨o, ho, hgo⟩
    rw [List.getElem?_set] at ho
    split at ho
    · split at ho <;> simp at ho; exact absurd ho.symm hgo
    · exact ⟨o, ho, hgo⟩
  refine ⟨fun k => hR _ _ (h.slots k), ?_, fun i j b o c o' c' hi hj => h.inj i j b o c o' c' (hlive i hi) (hlive j hj), ?_, h.zlt⟩
  · intro i o ho
    rw [List.getElem?_set] at ho
    split at ho
    · split at ho <;> simp at ho
      subst ho
      trivial
    · exact (h.obs i o ho).mono hR rfl (fun _ _ _ _ => rfl)
  · rintro b ⟨i, o, c, hi, hb⟩
    exact h.nz b ⟨i, o, c, hlive i hi, hb⟩

theorem Fr.kill (os : List Ob) (γ : Cx) (id : Nat) : Fr os γ (os.set id .gone) γ where
  eos := rfl
  tape := rfl
  output := rfl
  size := Nat.le_refl _
  keep := fun _ _ _ => rfl
  z0 := fun _ h => h
  z1 := fun _ h => .inl h
  own := by
    rintro b ⟨i, o, c, ⟨x, hx, hgx⟩, hb⟩
    rw [List.getElem?_set] at hx
    split at hx
    · split at hx <;> simp at hx; exact absurd hx.symm hgx
    · exact .inl ⟨i, o, c, ⟨x, hx, hgx⟩, hb⟩
  len := by simp
  old := by
    rintro i hi ⟨x, hx, hgx⟩
    have hx0 := hx
    rw [List.getElem?_set] at hx
    split at hx
    · split at hx <;> simp at hx; exact absurd hx.symm hgx
    · exact ⟨rfl, x, x, hx, hx0, Ob.like_refl hgx⟩

/-- AN OBJECT'S CELLS ARE WRITTEN (its block, its shape stay) -/
theorem Sim.write {σ : St} {γ : Cx} (h : Sim σ γ) {id : Nat} {ob ob' : Ob} (ho : σ.objs[id]? = some ob) (hg : ob ≠ .gone) (hlk : ob.like ob') {b o cap : Nat} (hb : γ.blk id = some (b, o, cap))
    {w' : World} {cur : Array Value} {t : TypeId} (hw : w'.heap[b]? = some (.cells cur t (0, 0))) (hoth : ∀ k, k ≠ b → w'.heap[k]? = γ.w.heap[k]?) (hsz : w'.heap.size = γ.w.heap.size)
    (hob : ObNew σ.objs γ.w γ.Z γ.blk o cap cur ob') : Sim { σ with objs := σ.objs.set id ob' } { γ with w := w' } := by
  have hid : id < σ.objs.length := (List.getElem?_eq_some_iff.1 ho).1
  have hlv : Live σ.objs id := ⟨ob, ho, hg⟩
  have hg' : ob' ≠ .gone := by intro e; subst e; cases ob <;> simp [Ob.like] at hlk
  have hR : ∀ v cv, RelV σ.objs γ.w γ.Z γ.blk v cv → RelV (σ.objs.set id ob') w' γ.Z γ.blk v cv := fun v cv hv =>
    hv.mono (fun z hz => ⟨hz, hoth z (fun e => h.nz b ⟨id, o, cap, hlv, hb⟩ (e ▸ hz))⟩) (fun i x hx => by
      rw [List.getElem?_set]
      by_cases hii : id = i
      · subst hii
        rw [ho] at hx
        simp at hx
        subst hx
        right
        refine ⟨rfl, ob', by simp [hid], hlk⟩
      · rw [if_neg hii]
        by_cases hgo : x = .gone
        · subst hgo; exact .inl hx
        · exact .inr ⟨rfl, x, hx, Ob.like_refl hgo⟩)
  have hlive : ∀ i, Live (σ.objs.set id ob') i → Live σ.objs i := by
    rintro i ⟨x, hx, hgx⟩
    rw [List.getElem?_set] at hx
    split at hx
    · rename_i e; subst e; exact hlv
    · exact ⟨x, hx, hgx⟩
  refine ⟨fun k => hR _ _ (h.slots k), ?_, fun i j b o c o' c' hi hj => h.inj i j b o c o' c' (hlive i hi) (hlive j hj), ?_, fun z hz => by rw [hsz]; exact h.zlt z hz⟩
  · intro i x hx
    rw [List.getElem?_set] at hx
    by_cases hii : id = i
    · subst hii
      rw [if_pos rfl, if_pos hid] at hx
      simp at hx
      subst hx
      exact hob.obR hR hb hw
    · rw [if_neg hii] at hx
      by_cases hgo : x = .gone
      · subst hgo; trivial
      · refine (h.obs i x hx).mono hR rfl (fun z y c hz => hoth z (fun e => hii ?_))
        subst e
        exact h.inj id i z o cap y c hlv ⟨x, hx, hgo⟩ hb hz
  · rintro z ⟨i, y, c, hi, hz⟩
    exact h.nz z ⟨i, y, c, hlive i hi, hz⟩

theorem Fr.write {σ : St} {γ : Cx} {id : Nat} {ob : Ob} (ob' : Ob) (ho : σ.objs[id]? = some ob) (hg : ob ≠ .gone) (hlk : ob.like ob') {b o cap : Nat} (hb : γ.blk id = some (b, o, cap))
    {w' : World} (hoth : ∀ k, k ≠ b → w'.heap[k]? = γ.w.heap[k]?) (hsz : w'.heap.size = γ.w.heap.size) (h1 : w'.os = γ.w.os) (h2 : w'.tape = γ.w.tape) (h3 : w'.output = γ.w.output) :
    Fr σ.objs γ (σ.objs.set id ob') { γ with w := w' } where
  eos := h1
  tape := h2
  output := h3
  size := by simp [hsz]
  keep := fun z _ hno => hoth z (fun e => hno ⟨id, o, cap, ⟨ob, ho, hg⟩, e ▸ hb⟩)
  z0 := fun _ h => h
  z1 := fun _ h => .inl h
  own := by
    rintro z ⟨i, y, c, ⟨x, hx, hgx⟩, hz⟩
    rw [List.getElem?_set] at hx
    split at hx
    · rename_i e; subst e; exact .inl ⟨id, y, c, ⟨ob, ho, hg⟩, hz⟩
    · exact .inl ⟨i, y, c, ⟨x, hx, hgx⟩, hz⟩
  len := by simp
  old := by
    rintro i hi ⟨x, hx, hgx⟩
    have hx0 := hx
    rw [List.getElem?_set] at hx
    split at hx
    · rename_i e; subst e; exact ⟨rfl, ob, ob', ho, by rw [List.getElem?_set]; simp [hi], hlk⟩
    · exact ⟨rfl, x, x, hx, hx0, Ob.like_refl hgx⟩

end Go.Am
