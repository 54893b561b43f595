import Derived.Test.YtjbfepcaobnbpaaGreatDoorX01
import Derived.MapKept
import Derived.Laws.StructEq
set_option linter.unusedVariables false
set_option linter.unusedSimpArgs false
set_option linter.unnecessarySimpa false
set_option linter.unusedSectionVars false
section
namespace Go.Am
theorem eql_any_nil {P : Program} (w : World) (t e : TypeId) (a : Option Addr) (n c : Nat) (ht : P.underlying t = some (.slice e)) :
    (binOp .eql t (.slice a n c) (.slice none 0 0)).run P w = .ok (.bool a.isNone) w := by
  have h : ∀ d : Nat, (Op.equalIn (d + 1) t (.slice a n c) (.slice none 0 0)).run P w = .ok a.isNone w := fun d => by
    cases a <;> simp [Op.equalIn, run_underlying ht]
  simp only [binOp]
  simp [Op.equal, Op.maxDepth, h 9999]
theorem neq_any_nil {P : Program} (w : World) (t e : TypeId) (a : Option Addr) (n c : Nat) (ht : P.underlying t = some (.slice e)) :
    (binOp .neq t (.slice a n c) (.slice none 0 0)).run P w = .ok (.bool (!a.isNone)) w := by
  have h : ∀ d : Nat, (Op.equalIn (d + 1) t (.slice a n c) (.slice none 0 0)).run P w = .ok a.isNone w := fun d => by
    cases a <;> simp [Op.equalIn, run_underlying ht]
  simp only [binOp]
  simp [Op.equal, Op.maxDepth, h 9999]
variable {P : Program}

theorem eql_some_nil (w : World) (t : TypeId) {e : TypeId} (a : Addr) (n c : Nat) (ht : P.underlying t = some (.slice e)) :
    (binOp .eql t (.slice (some a) n c) (.slice none 0 0)).run P w = .ok (.bool false) w := by
  have h : ∀ d : Nat, (Op.equalIn (d + 1) t (.slice (some a) n c) (.slice none 0 0)).run P w = .ok false w := fun d => by
    simp [Op.equalIn, run_underlying ht]
  simp only [binOp]
  simp [Op.equal, Op.maxDepth, h 9999]
theorem neq_some_nil (w : World) (t : TypeId) {e : TypeId} (a : Addr) (n c : Nat) (ht : P.underlying t = some (.slice e)) :
    (binOp .neq t (.slice (some a) n c) (.slice none 0 0)).run P w = .ok (.bool true) w := by
  have h : ∀ d : Nat, (Op.equalIn (d + 1) t (.slice (some a) n c) (.slice none 0 0)).run P w = .ok false w := fun d => by
    simp [Op.equalIn, run_underlying ht]
  simp only [binOp]
  simp [Op.equal, Op.maxDepth, h 9999]

theorem RelV.int_inv {os : List Ob} {w : World} {Z : Nat → Prop} {blk : Blk} {k : IntKind} {n : Int} {cv : Value} (h : RelV os w Z blk (.lit (.int k n)) cv) : cv = .int k n := h.lit_inv

theorem RelV.ptr_inv {os : List Ob} {w : World} {Z : Nat → Prop} {blk : Blk} {id r c : Nat} {cv : Value} (h : RelV os w Z blk (.ptr id r c) cv) :
    os[id]? = some .gone ∨ (∃ b cap cells, os[id]? = some (.var cells) ∧ blk id = some (b, 0, cap) ∧ r = 0 ∧ cv = .pointer (some ⟨b, c, none⟩)) ∨
    (∃ sz b o cap rows, os[id]? = some (.arr sz rows) ∧ blk id = some (b, o, cap) ∧ cv = .pointer (some ⟨b, o + (r * sz + c), none⟩)) := by
  cases h with
  | frz _ _ h => cases h
  | deadPtr _ _ _ _ h => exact .inl h
  | ptrV _ _ b cap cells h hb => exact .inr (.inl ⟨b, cap, cells, h, hb, rfl, rfl⟩)
  | ptrA _ _ _ sz b o cap rows h hb => exact .inr (.inr ⟨sz, b, o, cap, rows, h, hb, rfl⟩)

theorem RelV.taddr_inv {os : List Ob} {w : World} {Z : Nat → Prop} {blk : Blk} {cells : List AV} {cv : Value} (h : RelV os w Z blk (.taddr cells) cv) :
    ∃ b o, ∃ f : Nat → Value, cv = .pointer (some ⟨b, o, none⟩) ∧ Z b ∧ (∀ j x, cells[j]? = some x → w.cell? ⟨b, o + j, none⟩ = some (f j)) ∧ ∀ j x, cells[j]? = some x → TreeR w Z x (f j) := by
  cases h with
  | frz _ _ h => cases h
  | taddr _ b o f h1 h2 h3 => exact ⟨b, o, f, rfl, h1, h2, h3⟩

theorem RelV.ref_inv {os : List Ob} {w : World} {Z : Nat → Prop} {blk : Blk} {id sz off len : Nat} {cv : Value} (h : RelV os w Z blk (.ref id sz off len) cv) :
    os[id]? = some .gone ∨ (os[id]? = some (.arr sz []) ∧ blk id = none ∧ off = 0 ∧ len = 0 ∧ cv = .slice none 0 0) ∨
    (len = 0 ∧ ∃ b x bo rows, os[id]? = some (.arr sz rows) ∧ blk id = some (b, bo) ∧ off ≤ rows.length ∧ cv = .slice (some ⟨b, x, none⟩) 0 0) ∨
    (∃ b o cap cap' rows, os[id]? = some (.arr sz rows) ∧ blk id = some (b, o, cap) ∧ off + len ≤ rows.length ∧ off + cap' ≤ cap ∧ len ≤ cap' ∧ cv = .slice (some ⟨b, o + off * sz, none⟩) len cap') := by
  cases h with
  | frz _ _ h => cases h
  | deadRef _ _ _ _ _ h => exact .inl h
  | refNil _ _ h hb => exact .inr (.inl ⟨h, hb, rfl, rfl, rfl⟩)
  | refEnd _ _ _ b x bo rows h hb hl => exact .inr (.inr (.inl ⟨rfl, b, x, bo, rows, h, hb, hl, rfl⟩))
  | ref _ _ _ _ b o cap cap' rows h hb hl hc hlc => exact .inr (.inr (.inr ⟨b, o, cap, cap', rows, h, hb, hl, hc, hlc, rfl⟩))

theorem RelV.agg_inv {os : List Ob} {w : World} {Z : Nat → Prop} {blk : Blk} {cs : List AV} {cv : Value} (h : RelV os w Z blk (.agg cs) cv) :
    ∃ cvs, cv = .agg cvs ∧ cvs.size = cs.length ∧ ∀ j x, cs[j]? = some x → RelV os w Z blk x (cvs.getD j Go.undef) := by
  cases h with
  | frz _ _ h => cases h
  | agg _ cvs h1 h2 => exact ⟨cvs, rfl, h1, h2⟩

theorem RelV.tup_inv {os : List Ob} {w : World} {Z : Nat → Prop} {blk : Blk} {cs : List AV} {cv : Value} (h : RelV os w Z blk (.tup cs) cv) :
    ∃ cvs, cv = .tuple cvs ∧ cvs.size = cs.length ∧ ∀ j x, cs[j]? = some x → RelV os w Z blk x (cvs.getD j Go.undef) := by
  cases h with
  | frz _ _ h => cases h
  | tup _ cvs h1 h2 => exact ⟨cvs, rfl, h1, h2⟩

theorem RelV.fn_inv {os : List Ob} {w : World} {Z : Nat → Prop} {blk : Blk} {f : FuncId} {cs : List AV} {cv : Value} (h : RelV os w Z blk (.fn f cs) cv) :
    ∃ cvs, cv = .func (.func f) #[] cvs ∧ cvs.size = cs.length ∧ ∀ j x, cs[j]? = some x → RelV os w Z blk x (cvs.getD j Go.undef) := by
  cases h with
  | frz _ _ h => cases h
  | fn _ _ cvs h1 h2 => exact ⟨cvs, rfl, h1, h2⟩

theorem RelV.ifc_inv {os : List Ob} {w : World} {Z : Nat → Prop} {blk : Blk} {t : TypeId} {v : AV} {cv : Value} (h : RelV os w Z blk (.ifc t v) cv) : ∃ x, cv = .iface t x ∧ RelV os w Z blk v x := by
  cases h with
  | frz _ _ h => cases h
  | ifc _ _ x h => exact ⟨x, rfl, h⟩

theorem TreeR.inv {w : World} {Z : Nat → Prop} {sz : Nat} {rows : List (List AV)} {cv : Value} (h : TreeR w Z (.tree sz rows) cv) :
    (∃ a cap, rows = [] ∧ cv = .slice a 0 cap) ∨ ∃ b o cap, ∃ f : Nat → Nat → Value, cv = .slice (some ⟨b, o, none⟩) rows.length cap ∧ Z b ∧ (∀ row ∈ rows, row.length = sz) ∧ rows.length ≤ cap ∧
      (∀ r c x, cellAt rows r c = some x → w.cell? ⟨b, o + (r * sz + c), none⟩ = some (f r c)) ∧ ∀ r c x, cellAt rows r c = some x → TreeR w Z x (f r c) := by
  cases h with
  | nil _ cap a => exact .inl ⟨a, cap, rfl, rfl⟩
  | tree _ _ b o cap f h1 h2 h3 h4 h5 => exact .inr ⟨b, o, cap, f, rfl, h1, h2, h3, h4, h5⟩

/-- a part of a tree -/
theorem TreeR.sub {w : World} {Z : Nat → Prop} {sz : Nat} {rows : List (List AV)} {b o cap cap' : Nat} {f : Nat → Nat → Value} (hz : Z b) (hr : ∀ row ∈ rows, row.length = sz)
    (hc : ∀ r c x, cellAt rows r c = some x → w.cell? ⟨b, o + (r * sz + c), none⟩ = some (f r c)) (ht : ∀ r c x, cellAt rows r c = some x → TreeR w Z x (f r c)) (lo n : Nat) (hn : n ≤ cap') (_hcap : rows.length ≤ cap) (hlo : lo + n ≤ rows.length) :
    TreeR w Z (.tree sz ((rows.drop lo).take n)) (.slice (some ⟨b, o + lo * sz, none⟩) n cap') := by
  have hlen : ((rows.drop lo).take n).length = n := by simp; omega
  have hcell : ∀ r c x, cellAt ((rows.drop lo).take n) r c = some x → cellAt rows (lo + r) c = some x := by
    intro r c x hx
    simp only [cellAt, List.getElem?_take, List.getElem?_drop] at hx
    split at hx
    · exact hx
    · simp at hx
  have := TreeR.tree (w := w) (Z := Z) sz ((rows.drop lo).take n) b (o + lo * sz) cap' (fun r c => f (lo + r) c) hz (fun row h => hr row (List.mem_of_mem_drop (List.mem_of_mem_take h))) (by omega)
    (fun r c x hx => by
      have h1 := hc _ _ _ (hcell r c x hx)
      rw [Nat.add_mul] at h1
      have e : o + (lo * sz + r * sz + c) = o + lo * sz + (r * sz + c) := by omega
      rw [e] at h1
      exact h1) (fun r c x hx => ht _ _ _ (hcell r c x hx))
  rw [hlen] at this
  exact this

/-- a new object by one allocation -/
theorem alloc_out {o : Oper} {σ : St} {γ : Cx} {a : Act} {K : St → Prop} (h : Sim σ γ) (ha : γ.tmps = a.tmps) (hd : ∀ d, o.dst = some d → d < a.tmps.size) {ob : Ob} {cur : Array Value} {t : TypeId} {cap : Nat}
    (hob : ObNew σ.objs γ.w γ.Z γ.blk 0 cap cur ob) {v : AV} {cv : Value}
    (hv : RelV (σ.objs ++ [ob]) (γ.w.alloc (.cells cur t)) γ.Z (updB γ.blk σ.objs.length (some (γ.w.heap.size, 0, cap))) v cv)
    (hK : K (({ σ with objs := σ.objs ++ [ob] } : St).put o.dst v)) {r : Result Next} (hr : r = .ok (.value cv) (γ.w.alloc (.cells cur t))) : OpOut o σ γ a K r :=
  out_put' (σ1 := { σ with objs := σ.objs ++ [ob] }) (γ1 := { γ with w := γ.w.alloc (.cells cur t), blk := updB γ.blk σ.objs.length (some (γ.w.heap.size, 0, cap)) })
    (Fr.push (t := t) (cur := cur) ob rfl rfl rfl rfl) (h.push (t := t) (cur := cur) rfl hob) ha hd hv hK hr

/-! ### maps -/
theorem mkEs_toList (ents : List (Value × Value)) : (mkEs ents).toList = ents.mapIdx fun i p => (⟨p.1, p.2, i⟩ : MapEntry) := by simp [mkEs]
theorem mkEs_push (L : List (Value × Value)) (p : Value × Value) : (mkEs L).push ⟨p.1, p.2, L.length⟩ = mkEs (L ++ [p]) := by
  apply Array.toList_inj.1
  rw [Array.toList_push, mkEs_toList, mkEs_toList, List.mapIdx_append]
  simp
theorem mkEs_modify (L : List (Value × Value)) (i : Nat) (f : MapEntry → MapEntry) (p : Value × Value) (hf : ∀ q, L[i]? = some q → f ⟨q.1, q.2, i⟩ = ⟨p.1, p.2, i⟩) : (mkEs L).modify i f = mkEs (L.set i p) := by
  apply Array.ext_getElem?
  intro j
  rw [Array.getElem?_modify]
  simp only [mkEs, List.getElem?_toArray, List.getElem?_mapIdx, List.getElem?_set]
  by_cases h : i = j
  · subst h
    rw [if_pos rfl, if_pos rfl]
    cases hq : L[i]? with
    | none =>
      have : ¬ i < L.length := by
        have := List.getElem?_eq_none_iff.1 hq; omega
      simp [this]
    | some q =>
      have : i < L.length := (List.getElem?_eq_some_iff.1 hq).1
      simp [this, hf q hq]
  · rw [if_neg h, if_neg h]
theorem mpE_length (ag : Nat) (f : Nat → Value) (L : List (List Int × AV)) : (mpE ag f L).length = L.length := by unfold mpE; simp
theorem mpE_get (ag : Nat) (f : Nat → Value) (L : List (List Int × AV)) (j : Nat) : (mpE ag f L)[j]? = (L[j]?).map fun p => (kV ag p.1, f j) := by unfold mpE; simp
theorem findA_some {l : List Int} : ∀ {L : List (List Int × AV)} {i j : Nat}, findA l L i = some j → i ≤ j ∧ ∃ v, L[j - i]? = some (l, v)
  | [], _, _, h => by cases h
  | p :: r, i, j, h => by
    rw [findA] at h
    split at h
    · rename_i hp
      cases h
      exact ⟨Nat.le_refl _, p.2, by rw [Nat.sub_self]; simp [← hp]⟩
    · obtain ⟨h1, v, h2⟩ := findA_some h
      have e : j - i = (j - (i + 1)) + 1 := by omega
      exact ⟨by omega, v, by rw [e, List.getElem?_cons_succ]; exact h2⟩
theorem mpOf_obj {σ : St} {γ : Cx} (h : Sim σ γ) {v : AV} {cv : Value} (hv : RelV σ.objs γ.w γ.Z γ.blk v cv) {id ag : Nat} {L : List (List Int × AV)} (hm : mpOf σ v = some (id, ag, L)) :
    v = .mref id ∧ σ.objs[id]? = some (.mp ag L) ∧ ∃ b, ∃ f : Nat → Value, γ.blk id = some (b, 0, 0) ∧ cv = .map (some b) ∧ γ.w.heap[b]? = some (.map (mkEs (mpE ag f L)) L.length) ∧ (∀ p ∈ L, p.1.length = kLen ag) ∧ ∀ (j : Nat) p, L[j]? = some p → RelV σ.objs γ.w γ.Z γ.blk p.2 (f j) := by
  unfold mpOf at hm
  split at hm
  · rename_i id'
    split at hm
    · rename_i ag' L' ho
      simp only [Option.some.injEq, Prod.mk.injEq] at hm
      obtain ⟨rfl, rfl, rfl⟩ := hm
      obtain ⟨b, f, h1, h2, h3, h4⟩ := h.obs _ _ ho
      cases hv with
      | frz _ _ h => cases h
      | deadM _ _ h' _ => rw [ho] at h'; simp at h'
      | mref _ b' _ _ h' hb =>
        rw [h1] at hb
        simp only [Option.some.injEq, Prod.mk.injEq, and_true] at hb
        subst hb
        exact ⟨rfl, ho, b, f, h1, rfl, h2, h3, h4⟩
    · cases hm
  · cases hm
theorem keyOf_val {os : List Ob} {w : World} {Z : Nat → Prop} {blk : Blk} {v : AV} {cv : Value} (hv : RelV os w Z blk v cv) {ag : Nat} {l : List Int} (hk : keyOf v = some (ag, l)) (hl : l.length = kLen ag) : cv = kV ag l := by
  unfold keyOf at hk
  split at hk
  · simp only [Option.some.injEq, Prod.mk.injEq] at hk
    obtain ⟨rfl, rfl⟩ := hk
    rw [hv.lit_inv]; rfl
  · rename_i cs
    cases hi : intsOf cs with
    | none => simp [hi] at hk
    | some as =>
      simp only [hi, Option.map_some, Option.some.injEq, Prod.mk.injEq] at hk
      obtain ⟨rfl, rfl⟩ := hk
      have := agg_ints hv hi
      rw [this]
      unfold kLen at hl
      unfold kV
      by_cases h0 : as.length = 0
      · rw [if_pos h0] at hl; omega
      · rw [if_neg h0]
  · cases hk
theorem run_lookupA {t : TypeId} {ag : Nat} (hkm : KeyM P t ag) {z : Value} {w : World} (hz : ∀ kt et, P.underlying t = some (.map kt et) → (zeroValue et).run P w = .ok z w) {b : Nat} {f : Nat → Value} {L : List (List Int × AV)}
    (hb : w.heap[b]? = some (.map (mkEs (mpE ag f L)) L.length)) (hL : ∀ p ∈ L, p.1.length = kLen ag) {l : List Int} (hl : l.length = kLen ag) :
    (Instr.lookup t (.map (some b)) (kV ag l) false).run P w = .ok (((findA l L 0).map f).getD z) w := by
  obtain ⟨kt, et, ht, hk⟩ := hkm
  obtain ⟨h1, h2, h3⟩ := hk l hl
  simp only [Instr.lookup, Sem.run_bind, run_underlying ht, MapKept.run_getObj_map hb, h1, h3 f L w hL, Result.andThen_ok, Sem.run_pure]
  cases h : findA l L 0 with
  | none => simp [hz kt et ht]
  | some q => simp
theorem run_updateA {t : TypeId} {ag : Nat} (hkm : KeyM P t ag) {w : World} {b : Nat} {f : Nat → Value} {L : List (List Int × AV)}
    (hb : w.heap[b]? = some (.map (mkEs (mpE ag f L)) L.length)) (hL : ∀ p ∈ L, p.1.length = kLen ag) {l : List Int} (hl : l.length = kLen ag) (v : AV) (cv : Value) :
    ∃ f' : Nat → Value, (Instr.mapUpdate t (.map (some b)) (kV ag l) cv).run P w = .ok () { w with heap := w.heap.setIfInBounds b (.map (mkEs (mpE ag f' (setA l v L))) (setA l v L).length) } ∧
      (∀ p ∈ setA l v L, p.1.length = kLen ag) ∧ ∀ (j : Nat) p, (setA l v L)[j]? = some p → (p.2 = v ∧ f' j = cv) ∨ (L[j]? = some p ∧ f' j = f j) := by
  obtain ⟨kt, et, ht, hk⟩ := hkm
  obtain ⟨h1, h2, h3⟩ := hk l hl
  simp only [Instr.mapUpdate, Sem.run_bind, run_underlying ht, MapKept.run_getObj_map hb, h1, h3 f L w hL, Result.andThen_ok]
  unfold setA
  cases h : findA l L 0 with
  | none =>
    refine ⟨fun j => if j = L.length then cv else f j, ?_, fun p hp => ?_, fun j p hp => ?_⟩
    · have e := mkEs_push (mpE ag f L) (kV ag l, cv)
      rw [mpE_length] at e
      have e2 : mpE ag f L ++ [(kV ag l, cv)] = mpE ag (fun j => if j = L.length then cv else f j) (L ++ [(l, v)]) := by
        unfold mpE
        rw [List.mapIdx_append]
        congr 1
        · apply List.ext_getElem
          · simp
          · intro j h5 h6
            have : j < L.length := by simpa using h5
            simp [Nat.ne_of_lt this]
        · simp
      simp only [Option.map_none, MapKept.run_setObj_map _ hb, e, e2, List.length_append, List.length_singleton]
    · rcases List.mem_append.1 hp with hp | hp
      · exact hL p hp
      · rw [List.mem_singleton.1 hp]; exact hl
    · rcases Nat.lt_or_ge j L.length with hj | hj
      · rw [List.getElem?_append_left hj] at hp
        exact .inr ⟨hp, by dsimp only; rw [if_neg (by omega)]⟩
      · rw [List.getElem?_append_right hj] at hp
        have : j = L.length := by
          have := (List.getElem?_eq_some_iff.1 hp).1
          simp at this; omega
        subst this
        simp only [Nat.sub_self, List.getElem?_cons_zero, Option.some.injEq] at hp
        subst hp
        exact .inl ⟨rfl, by dsimp only; rw [if_pos rfl]⟩
  | some q =>
    obtain ⟨_, u, hu⟩ := findA_some h
    rw [Nat.sub_zero] at hu
    have hq := (List.getElem?_eq_some_iff.1 hu).1
    refine ⟨fun j => if j = q then cv else f j, ?_, fun p hp => ?_, fun j p hp => ?_⟩
    · have hkey : (((mkEs (mpE ag f L))[q]?).map (·.key)).getD (kV ag l) = kV ag l := by
        simp [mkEs, mpE_get, hu]
      have e := mkEs_modify (mpE ag f L) q (fun e => { e with key := kV ag l, val := cv }) (kV ag l, cv) (fun _ _ => rfl)
      have e2 : (mpE ag f L).set q (kV ag l, cv) = mpE ag (fun j => if j = q then cv else f j) (L.set q (l, v)) := by
        apply List.ext_getElem?
        intro j
        rw [List.getElem?_set, mpE_get, mpE_get, List.getElem?_set, mpE_length]
        by_cases hj : q = j
        · subst hj; simp [hq]
        · rw [if_neg hj, if_neg hj, if_neg (Ne.symm hj)]
      simp only [Option.map_some, hkey, h2, Result.andThen_ok, MapKept.run_setObj_map _ hb, Sem.run_bind]
      rw [e, e2, List.length_set]
    · rcases List.mem_or_eq_of_mem_set hp with hp | hp
      · exact hL p hp
      · rw [hp]; exact hl
    · simp only [List.getElem?_set] at hp
      by_cases hj : q = j
      · subst hj
        rw [if_pos rfl, if_pos hq] at hp
        cases hp
        exact .inl ⟨rfl, by dsimp only; rw [if_pos rfl]⟩
      · rw [if_neg hj] at hp
        exact .inr ⟨hp, by dsimp only; rw [if_neg (Ne.symm hj)]⟩
theorem Sim.wrR {σ : St} {γ : Cx} (h : Sim σ γ) {id : Nat} {ob ob' : Ob} (ho : σ.objs[id]? = some ob) (hg : ob ≠ .gone) (hlk : ob.like ob') {b o cap : Nat} (hb : γ.blk id = some (b, o, cap))
    {w' : World} (hoth : ∀ k, k ≠ b → w'.heap[k]? = γ.w.heap[k]?) : ∀ v cv, RelV σ.objs γ.w γ.Z γ.blk v cv → RelV (σ.objs.set id ob') w' γ.Z γ.blk v cv := by
  have hid : id < σ.objs.length := (List.getElem?_eq_some_iff.1 ho).1
  have hlv : Live σ.objs id := ⟨ob, ho, hg⟩
  exact fun v cv hv =>
    hv.mono (fun z hz => ⟨hz, hoth z (fun e => h.nz b ⟨id, o, cap, hlv, hb⟩ (e ▸ hz))⟩) (fun i x hx => by
      rw [List.getElem?_set]
      by_cases hii : id = i
      · subst hii
        rw [ho] at hx
        simp at hx
        subst hx
        right
        refine ⟨rfl, ob', by simp [hid], hlk⟩
      · rw [if_neg hii]
        by_cases hgo : x = .gone
        · subst hgo; exact .inl hx
        · exact .inr ⟨rfl, x, hx, Ob.like_refl hgo⟩)
theorem run_entryA {t : TypeId} {ag : Nat} (hkm : KeyM P t ag) {z : Value} {w : World} (hz : ∀ kt et, P.underlying t = some (.map kt et) → (zeroValue et).run P w = .ok z w) {b : Nat} {f : Nat → Value} {L : List (List Int × AV)}
    (hb : w.heap[b]? = some (.map (mkEs (mpE ag f L)) L.length)) (hL : ∀ p ∈ L, p.1.length = kLen ag) {l : List Int} (hl : l.length = kLen ag) :
    ∃ f' : Nat → Value, (Instr.mapEntry t (.map (some b)) (kV ag l)).run P w = .ok (.tuple #[((findA l L 0).map f).getD z, .int .i64 (idxA l L : Nat)]) { w with heap := w.heap.setIfInBounds b (.map (mkEs (mpE ag f' (setA l ((getA l L).getD (.lit z)) L))) (setA l ((getA l L).getD (.lit z)) L).length) } ∧
      (∀ p ∈ setA l ((getA l L).getD (.lit z)) L, p.1.length = kLen ag) ∧ ∀ (j : Nat) p, (setA l ((getA l L).getD (.lit z)) L)[j]? = some p → (p.2 = (getA l L).getD (.lit z) ∧ f' j = ((findA l L 0).map f).getD z) ∨ (L[j]? = some p ∧ f' j = f j) := by
  obtain ⟨kt, et, ht, hk⟩ := hkm
  obtain ⟨h1, h2, h3⟩ := hk l hl
  generalize hv : (getA l L).getD (.lit z) = v
  simp only [Instr.mapEntry, Sem.run_bind, run_underlying ht, MapKept.run_getObj_map hb, h1, h3 f L w hL, Result.andThen_ok]
  unfold setA idxA
  cases h : findA l L 0 with
  | none =>
    refine ⟨fun j => if j = L.length then z else f j, ?_, fun p hp => ?_, fun j p hp => ?_⟩
    · have e := mkEs_push (mpE ag f L) (kV ag l, z)
      rw [mpE_length] at e
      have e2 : mpE ag f L ++ [(kV ag l, z)] = mpE ag (fun j => if j = L.length then z else f j) (L ++ [(l, v)]) := by
        unfold mpE
        rw [List.mapIdx_append]
        congr 1
        · apply List.ext_getElem
          · simp
          · intro j h5 h6
            have : j < L.length := by simpa using h5
            simp [Nat.ne_of_lt this]
        · simp
      simp only [Option.map_none, hz kt et ht, Result.andThen_ok, MapKept.run_setObj_map _ hb, Sem.run_bind, e, e2, List.length_append, List.length_singleton, Sem.run_pure, Option.getD_none, goInt]
    · rcases List.mem_append.1 hp with hp | hp
      · exact hL p hp
      · rw [List.mem_singleton.1 hp]; exact hl
    · rcases Nat.lt_or_ge j L.length with hj | hj
      · rw [List.getElem?_append_left hj] at hp
        exact .inr ⟨hp, by dsimp only; rw [if_neg (by omega)]⟩
      · rw [List.getElem?_append_right hj] at hp
        have : j = L.length := by
          have := (List.getElem?_eq_some_iff.1 hp).1
          simp at this; omega
        subst this
        simp only [Nat.sub_self, List.getElem?_cons_zero, Option.some.injEq] at hp
        subst hp
        exact .inl ⟨rfl, by dsimp only; rw [if_pos rfl]; rfl⟩
  | some q =>
    obtain ⟨_, u, hu⟩ := findA_some h
    rw [Nat.sub_zero] at hu
    have hq := (List.getElem?_eq_some_iff.1 hu).1
    refine ⟨f, ?_, fun p hp => ?_, fun j p hp => ?_⟩
    · have hkey : (((mkEs (mpE ag f L))[q]?).map (·.key)).getD (kV ag l) = kV ag l := by
        simp [mkEs, mpE_get, hu]
      have hborn : (((mkEs (mpE ag f L))[q]?).map (fun e => (e.born : Int))).getD 0 = (q : Int) := by
        simp [mkEs, mpE_get, hu]
      have e := mkEs_modify (mpE ag f L) q (fun e => { e with key := kV ag l }) (kV ag l, f q) (fun x hx => by
        rw [mpE_get, hu] at hx
        cases hx
        rfl)
      have e2 : (mpE ag f L).set q (kV ag l, f q) = mpE ag f (L.set q (l, v)) := by
        apply List.ext_getElem?
        intro j
        rw [List.getElem?_set, mpE_get, mpE_get, List.getElem?_set, mpE_length]
        by_cases hj : q = j
        · subst hj; simp [hq]
        · rw [if_neg hj, if_neg hj]
      simp only [Option.map_some, hkey, h2, Result.andThen_ok, MapKept.run_setObj_map _ hb, Sem.run_bind, Sem.run_pure, hborn, Option.getD_some, goInt]
      rw [e, e2, List.length_set]
    · rcases List.mem_or_eq_of_mem_set hp with hp | hp
      · exact hL p hp
      · rw [hp]; exact hl
    · simp only [List.getElem?_set] at hp
      by_cases hj : q = j
      · subst hj
        rw [if_pos rfl, if_pos hq] at hp
        cases hp
        exact .inl ⟨rfl, rfl⟩
      · rw [if_neg hj] at hp
        exact .inr ⟨hp, rfl⟩
theorem findI_born (ents : List (Value × Value)) {n : Nat} (hn : n < ents.length) : (mkEs ents).findIdx? (fun e => (e.born : Int) == (n : Int)) = some n := by
  unfold mkEs
  rw [List.findIdx?_toArray, List.findIdx?_eq_some_iff_getElem]
  refine ⟨by simpa using hn, by simp, fun j hj => ?_⟩
  simp only [List.getElem_mapIdx]
  simp; omega
theorem run_putA {t : TypeId} {ag : Nat} {w : World} {b : Nat} {f : Nat → Value} {L : List (List Int × AV)}
    (hb : w.heap[b]? = some (.map (mkEs (mpE ag f L)) L.length)) {n : Nat} (hn : n < L.length) (v : AV) (cv : Value) :
    (Instr.entryStore t (.map (some b)) (.int .i64 (n : Nat)) cv).run P w = .ok () { w with heap := w.heap.setIfInBounds b (.map (mkEs (mpE ag (fun j => if j = n then cv else f j) (putA n v L))) (putA n v L).length) } := by
  have hf := findI_born (mpE ag f L) (n := n) (by rw [mpE_length]; exact hn)
  have e := mkEs_modify (mpE ag f L) n (fun e => { e with val := cv }) (kV ag (L.getD n ([], .undef)).1, cv) (fun x hx => by
    rw [mpE_get, List.getElem?_eq_getElem hn] at hx
    cases hx
    rw [List.getD_eq_getElem?_getD, List.getElem?_eq_getElem hn]; rfl)
  have e2 : (mpE ag f L).set n (kV ag (L.getD n ([], .undef)).1, cv) = mpE ag (fun j => if j = n then cv else f j) (putA n v L) := by
    unfold putA
    apply List.ext_getElem?
    intro j
    rw [List.getElem?_set, mpE_get, mpE_get, List.getElem?_set, mpE_length]
    by_cases hj : n = j
    · subst hj; simp [hn]
    · rw [if_neg hj, if_neg hj, if_neg (Ne.symm hj)]
  simp only [Instr.entryStore, Sem.run_bind, MapKept.run_getObj_map hb, asInt, asIntOf, Sem.run_pure, Result.andThen_ok, hf, MapKept.run_setObj_map _ hb]
  rw [e, e2]
  simp [putA]
theorem ty_map {P : Program} {t : TypeId} (h : (ty P t).kind = 8) : ∃ kt, P.underlying t = some (.map kt (ty P t).elem) := by
  unfold ty at h ⊢
  cases hi : P.info? t <;> cases hd : P.underlying t <;> simp [hi, hd] at h ⊢
  rename_i i d
  cases d <;> simp at h ⊢

theorem opW_sound {o : Oper} {σ : St} {K : St → Prop} (hW : opW P o σ K) {γ : Cx} (h : Sim σ γ) {a : Act} (ha : γ.tmps = a.tmps) (hd : ∀ d, o.dst = some d → d < a.tmps.size) :
    OpOut o σ γ a K ((execOp a.eval o).run P γ.w) := by
  obtain ⟨dst, op, type, pos, after, guard⟩ := o
  unfold opW at hW
  have E := fun x => ev_rel h ha x
  cases op
  case move x => exact out_put h ha hd (E x) hW (by simp [execOp])
  case assign x => exact out_put h ha hd (E x) hW (by simp [execOp])
  case pick c x y =>
    simp only at hW
    have hc := E c
    split at hW
    · rename_i t he
      rw [he] at hc
      have hcv := hc.lit_inv
      refine out_put h ha hd (v := pickV t (ev σ x) (ev σ y)) (cv := if t then a.eval x else a.eval y) ?_ hW (by simp [execOp, hcv, asBool])
      unfold pickV
      split
      · rename_i x' y' h1 h2
        have hx := E x
        have hy := E y
        rw [h1] at hx
        rw [h2] at hy
        rw [hx.lit_inv, hy.lit_inv]
        cases t <;> exact .lit _
      · cases t
        · exact E y
        · exact E x
    · exact hW.elim
  case alloc e =>
    simp only at hW
    obtain ⟨hk', hW⟩ := hW
    split at hW
    · rename_i z hz
      obtain ⟨v, hv, hvc⟩ := run_zero hk' hz γ.w
      obtain ⟨l1, l2⟩ := lits_rel (os := σ.objs) (w := γ.w) (Z := γ.Z) (blk := γ.blk) z
      refine alloc_out (ob := .var (z.map .lit)) (v := .ptr σ.objs.length 0 0) (cv := .pointer (some ⟨γ.w.heap.size, 0, none⟩)) (cap := 0) (cur := z.toArray) (t := e) h ha hd ⟨rfl, by simp, l2⟩ ?_ hW ?_
      · exact .ptrV _ 0 _ 0 _ (List.getElem?_concat_length ..) (by simp [updB])
      · simp [execOp, Instr.alloc, hv, newVar, newRow, hvc]
    · exact hW.elim
  case box e x =>
    simp only at hW
    obtain ⟨hs, hK⟩ := hW
    obtain ⟨c1, c2, c3⟩ := cells_rel (E x) hs
    refine alloc_out (ob := .var (cellsOf (ev σ x))) (cv := .pointer (some ⟨γ.w.heap.size, 0, none⟩)) (cap := 0) (cur := (a.eval x).cells) (t := e) h ha hd ⟨rfl, c1, c2⟩ ?_ hK ?_
    · exact .ptrV _ 0 _ 0 _ (List.getElem?_concat_length ..) (by simp [updB])
    · simp [execOp, Instr.box, newVar, newRow]
  case build t parts =>
    simp only at hW
    split at hW
    · rename_i z hk hz
      split at hW
      · rename_i cs hf
        obtain ⟨⟨hs, hp⟩, hK⟩ := hW
        obtain ⟨cur, h1, h2⟩ := build_sound h ha hk hz hf hs hp
        exact out_put h ha hd h2 hK (by simp only [execOp, Sem.run_bind, h1, Result.andThen_ok, Sem.run_pure])
      · exact hW.elim
    · rename_i z hk hz
      split at hW
      · rename_i cs hf
        obtain ⟨⟨hs, hp⟩, hK⟩ := hW
        obtain ⟨cur, h1, h2⟩ := build_soundA h ha hk hz hf hs hp
        exact out_put h ha hd h2 hK (by simp only [execOp, Sem.run_bind, h1, Result.andThen_ok, Sem.run_pure])
      · exact hW.elim
    · exact hW.elim
  case buildSlice t len parts =>
    simp only at hW
    split at hW
    · rename_i z hk hz
      split at hW
      · rename_i cs hf
        obtain ⟨⟨hke, h0, hzl, hbig, hs⟩, hK⟩ := hW
        have ht := ty_slice hk
        obtain ⟨i, d, hi, hud, hsize, _, hzero⟩ := ty_info hke
        obtain ⟨zv, hzr, hzc⟩ := run_zero hke hz γ.w
        have hzl' : 0 < z.length := by rw [hzl]; exact h0
        obtain ⟨hl, hr⟩ := parts_rel h ha parts
        obtain ⟨cur, f1, f2⟩ := fill_rel (σ := σ) (γ := γ) _ _ _ _ cs hl hr (fun p hp => by
          simp only [List.mem_map] at hp
          obtain ⟨q, hq, rfl⟩ := hp
          rw [List.all_eq_true] at hs
          exact hs q hq) (zeros_rel z len (len * (ty P (ty P t).elem).size) (by rw [hzl]) hzl') hf
        have hcsl : cs.length = len * (ty P (ty P t).elem).size := by
          have := zeros_rel (os := σ.objs) (w := γ.w) (Z := γ.Z) (blk := γ.blk) z len (len * (ty P (ty P t).elem).size) (by rw [hzl]) hzl'
          have h1 : ∀ (parts : List (Nat × AV)) (cs cs' : List AV) (place : Nat → Option (Nat × Nat)), fillA place cs parts = some cs' → cs'.length = cs.length := by
            intro parts
            induction parts with
            | nil => intro cs cs' place h; simp [fillA] at h; rw [h]
            | cons p parts ih =>
              intro cs cs' place h
              obtain ⟨i, v⟩ := p
              simp only [fillA] at h
              split at h
              · simp at h
              · split at h
                · rw [ih _ _ _ h, setCells_length]
                · simp at h
          rw [h1 _ _ _ _ hf, ← this.1]
          simp
        have hmul : len * (ty P (ty P t).elem).size ≤ 16777216 := hbig
        have hlen : len ≤ maxLen := by
          have : len * 1 ≤ len * (ty P (ty P t).elem).size := Nat.mul_le_mul_left _ h0
          unfold maxLen; omega
        have hrun : (Instr.buildSlice t len (parts.map fun (i, x) => (i, a.eval x))).run P γ.w = .ok (.slice (some ⟨γ.w.heap.size, 0, none⟩) len len) (γ.w.alloc (.cells cur (ty P t).elem)) := by
          have hnb : ¬ (len * (ty P (ty P t).elem).size > 2 ^ 24) := by omega
          by_cases hl0 : len * (ty P (ty P t).elem).size = 0
          · rw [hl0] at f1
            have e0 : ((Array.range 0).map fun x => (#[] : Array Value)[x % (#[] : Array Value).size]!) = ((Array.range 0).map (z.toArray[· % z.toArray.size]!)) := by simp
            simp only [Instr.buildSlice, Sem.run_bind, run_underlying ht, Result.andThen_ok, run_sizeOf hke, if_false, hl0, if_true, Sem.run_pure, Nat.not_lt_zero, gt_iff_lt]
            rw [e0, f1]
            simp [newRow]
          simp only [Instr.buildSlice, Sem.run_bind, run_underlying ht, Result.andThen_ok, run_sizeOf hke, hnb, if_false, hl0, hzr, Sem.run_pure, hzc]
          rw [show ((Array.range (len * (ty P (ty P t).elem).size)).map fun x => z.toArray[x % z.toArray.size]!) = ((Array.range (len * (ty P (ty P t).elem).size)).map (z.toArray[· % z.toArray.size]!)) from rfl, f1]
          simp [newRow]
        refine alloc_out (ob := .arr (ty P (ty P t).elem).size (toRows (ty P (ty P t).elem).size len cs)) (cv := .slice (some ⟨γ.w.heap.size, 0, none⟩) len len) (cap := len) (cur := cur) (t := (ty P t).elem) h ha hd ?_ ?_ hK ?_
        · refine ⟨h0, toRows_rows _ _ _ (by omega), by rw [f2.1]; omega, by rw [toRows_length]; omega, hlen, ?_⟩
          intro r c v hv
          rw [Nat.zero_add]
          exact f2.2 _ _ (toRows_cell _ _ _ _ _ _ hv)
        · have := RelV.ref (os := σ.objs ++ [.arr (ty P (ty P t).elem).size (toRows (ty P (ty P t).elem).size len cs)]) (w := γ.w.alloc (.cells cur (ty P t).elem)) (Z := γ.Z) (blk := updB γ.blk σ.objs.length (some (γ.w.heap.size, 0, len)))
            σ.objs.length (ty P (ty P t).elem).size 0 len γ.w.heap.size 0 len len _ (by simp; rfl) (by simp [updB]) (by rw [toRows_length]; omega) (by omega) (Nat.le_refl _)
          simpa using this
        · simp only [execOp, Sem.run_bind, hrun, Result.andThen_ok, Sem.run_pure]
      · exact hW.elim
    · exact hW.elim
  case load t x =>
    simp only at hW
    obtain ⟨hk, hW⟩ := hW
    have hx := E x
    split at hW
    · rename_i id r c he
      rw [he] at hx
      split at hW
      · rename_i row hrow
        obtain ⟨v, cv', h1, h2, h3⟩ := load_ptr h hk hx hrow hW
        exact out_put h ha hd h2 h3 (by simp only [execOp, Sem.run_bind, h1, Result.andThen_ok, Sem.run_pure])
      · exact hW.elim
    · rename_i cells he
      rw [he] at hx
      obtain ⟨v, cv', h1, h2, h3⟩ := load_taddr h hk hx hW
      exact out_put h ha hd h2 h3 (by simp only [execOp, Sem.run_bind, h1, Result.andThen_ok, Sem.run_pure])
    · exact hW.elim
  case store t x y =>
    simp only at hW
    obtain ⟨hk, hW⟩ := hW
    have hx := E x
    split at hW
    · rename_i id r c he
      rw [he] at hx
      split at hW
      · rename_i row hrow
        obtain ⟨hc, hK⟩ := hW
        obtain ⟨w', h1, h2, h3⟩ := store_ptr h hk hx hrow (E y) hc
        exact out_skip h3 h2 ha hd hK (by simp only [execOp, Sem.run_bind, h1, Result.andThen_ok, Sem.run_pure])
      · exact hW.elim
    · exact hW.elim
  case nilCheck x =>
    simp only at hW
    have hx := E x
    split at hW
    · rename_i id r c he
      rw [he] at hx
      cases ho : σ.objs[id]? with
      | none => simp [ho] at hW
      | some ob =>
        have hlive : ob ≠ .gone ∧ K (σ.put dst (.ptr id r c)) := by cases ob <;> simp [ho] at hW ⊢ <;> exact hW
        have hcv : ∃ ad, a.eval x = .pointer (some ad) := by
          rcases hx.ptr_inv with h | ⟨b, cap, cells, _, _, _, h⟩ | ⟨_, b, o, cap, rows, _, _, h⟩
          · rw [ho] at h; simp at h; exact absurd h hlive.1
          · exact ⟨_, h⟩
          · exact ⟨_, h⟩
        obtain ⟨ad, hcv⟩ := hcv
        exact out_put h ha hd hx hlive.2 (by simp [execOp, hcv])
    · rename_i cells he
      rw [he] at hx
      have hcv : ∃ ad, a.eval x = .pointer (some ad) := by
        obtain ⟨b, o, f, h, _⟩ := hx.taddr_inv
        exact ⟨_, h⟩
      obtain ⟨ad, hcv⟩ := hcv
      exact out_put h ha hd hx hW (by simp [execOp, hcv])
    · exact hW.elim
  case binOp op t x y yt =>
    simp only at hW
    have hx := E x
    have hy := E y
    split at hW
    · rename_i k p k' q he hf
      rw [he] at hx
      rw [hf] at hy
      obtain ⟨rfl, hW⟩ := hW
      obtain ⟨v, h1, h2⟩ := intW_sound (P := P) hW t γ.w
      refine out_put h ha hd (.lit v) h2 ?_
      simp [execOp, hx.lit_inv, hy.lit_inv, eqGuard, h1]
    · rename_i p q he hf
      rw [he] at hx
      rw [hf] at hy
      obtain ⟨hk, hW⟩ := hW
      have ht := ty_bool hk
      split at hW
      · refine out_put h ha hd (.lit _) hW ?_
        simp [execOp, hx.lit_inv, hy.lit_inv, eqGuard, run_eql_bool γ.w t p q ht]
      · refine out_put h ha hd (.lit _) hW ?_
        simp [execOp, hx.lit_inv, hy.lit_inv, eqGuard, run_neq_bool γ.w t p q ht, bne]
      · exact hW.elim
    · rename_i sz rows he hf
      rw [he] at hx
      rw [hf] at hy
      obtain ⟨⟨hk, hr⟩, hW⟩ := hW
      have ht := ty_slice hk
      rcases hx.tree_inv.inv with ⟨ad, cap, rfl, hcv⟩ | ⟨b, o, cap, f, hcv, _⟩
      · exact absurd hr (by simp)
      split at hW
      · refine out_put h ha hd (.lit _) hW ?_
        simp [execOp, hcv, hy.lit_inv, eqGuard, eql_some_nil γ.w t _ _ _ ht]
      · refine out_put h ha hd (.lit _) hW ?_
        simp [execOp, hcv, hy.lit_inv, eqGuard, neq_some_nil γ.w t _ _ _ ht]
      · exact hW.elim
    · rename_i ad n c he hf
      rw [he] at hx
      rw [hf] at hy
      obtain ⟨hk, hW⟩ := hW
      have ht := ty_slice hk
      split at hW
      · refine out_put h ha hd (.lit _) hW ?_
        simp [execOp, hx.lit_inv, hy.lit_inv, eqGuard, eql_any_nil γ.w t _ _ _ _ ht]
      · refine out_put h ha hd (.lit _) hW ?_
        simp [execOp, hx.lit_inv, hy.lit_inv, eqGuard, neq_any_nil γ.w t _ _ _ _ ht]
      · exact hW.elim
    · rename_i cs ds he hf
      rw [he] at hx
      rw [hf] at hy
      split at hW
      · rename_i as bs hia hib
        obtain ⟨⟨hq, hlen, hgd⟩, hW⟩ := hW
        have hcx := agg_ints hx hia
        have hcy := agg_ints hy hib
        have heq := hq γ.w as bs rfl hlen
        split at hW
        · refine out_put h ha hd (.lit _) hW ?_
          simp only [execOp, hcx, hcy, Sem.run_bind, run_eqGuard_agg γ.w _ _ _ _ _ _ hgd, run_eql_struct, heq, Result.andThen_ok, Sem.run_pure]
        · refine out_put h ha hd (.lit _) hW ?_
          simp only [execOp, hcx, hcy, Sem.run_bind, run_eqGuard_agg γ.w _ _ _ _ _ _ hgd, run_neq_struct, heq, Result.andThen_ok, Sem.run_pure]
        · exact hW.elim
      · exact hW.elim
    · exact hW.elim
  case unOp op t x =>
    simp only at hW
    have hx := E x
    split at hW
    · rename_i b he
      rw [he] at hx
      exact out_put h ha hd (.lit _) hW (by simp [execOp, hx.lit_inv, Op.unary])
    · rename_i k n he
      rw [he] at hx
      unfold negW at hW
      split at hW
      · exact out_put h ha hd (.lit _) hW (by simp [execOp, hx.lit_inv, Op.unary, Op.intArith])
      · exact out_put h ha hd (.lit _) hW.2 (by simp [execOp, hx.lit_inv, Op.unary, Op.intArith, wrap_in hW.1])
    · exact hW.elim
  case makeMap t r =>
    simp only at hW
    obtain ⟨⟨rfl, hk⟩, hK⟩ := hW
    refine out_put' (σ1 := { σ with objs := σ.objs ++ [.mp (kAg P t) []] }) (γ1 := { γ with w := γ.w.alloc (.map #[] 0), blk := updB γ.blk σ.objs.length (some (γ.w.heap.size, 0, 0)) })
      (Fr.pushX (cap := 0) _ rfl rfl rfl rfl) (h.pushX (cap := 0) rfl fun os' w' blk' hR hb hx => ⟨_, fun _ => Go.undef, hb, hx, by simp, by simp⟩) ha hd
      (v := .mref σ.objs.length) (cv := .map (some γ.w.heap.size)) (.mref _ _ _ _ (List.getElem?_concat_length ..) (by simp [updB])) hK ?_
    simp [execOp, Instr.makeMap, newObj, Sem.run]
  case lookup t x i ok =>
    simp only at hW
    split at hW
    · rename_i ag l id ag' L z hki hmx hzz
      obtain ⟨⟨hkm, rfl, hl, hk8, rfl⟩, hK⟩ := hW
      obtain ⟨kt, ht⟩ := ty_map hk8
      obtain ⟨_, ho, b, f, hb, hcv, hheap, hL, hrel⟩ := mpOf_obj h (E x) hmx
      have hkv := keyOf_val (E i) hki hl
      have hz : ∀ kt' et', P.underlying t = some (.map kt' et') → (zeroValue et').run P γ.w = .ok z γ.w := by
        intro kt' et' h'
        rw [ht] at h'
        cases h'
        unfold zeroV at hzz
        split at hzz
        · rename_i ii hi
          simp [zeroValue, typeInfo, hi, hzz]
        · cases hzz
      have hrun := run_lookupA (P := P) hkm hz hheap hL hl
      refine out_put (cv := ((findA l L 0).map f).getD z) h ha hd ?_ hK (by simp only [execOp, hcv, hkv, Sem.run_bind, hrun, Result.andThen_ok, Sem.run_pure])
      unfold getA
      cases hf : findA l L 0 with
      | none => exact .lit z
      | some q =>
        obtain ⟨_, u, hu⟩ := findA_some hf
        rw [Nat.sub_zero] at hu
        simp only [Option.bind_some, hu, Option.map_some, Option.getD_some]
        exact hrel q _ hu
    · exact hW.elim
  case mapUpdate t m k x =>
    simp only at hW
    split at hW
    · rename_i ag l id ag' L hki hmx
      obtain ⟨⟨hkm, rfl, hl⟩, hK⟩ := hW
      obtain ⟨_, ho, b, f, hb, hcv, hheap, hL, hrel⟩ := mpOf_obj h (E m) hmx
      have hkv := keyOf_val (E k) hki hl
      obtain ⟨f', hrun, hL', hget⟩ := run_updateA (P := P) hkm hheap hL hl (ev σ x) (a.eval x)
      have hbs : b < γ.w.heap.size := (Array.getElem?_eq_some_iff.1 hheap).1
      refine out_skip (σ1 := { σ with objs := σ.objs.set id (.mp ag' (setA l (ev σ x) L)) }) (γ1 := { γ with w := { γ.w with heap := γ.w.heap.setIfInBounds b (.map (mkEs (mpE ag' f' (setA l (ev σ x) L))) (setA l (ev σ x) L).length) } })
        (Fr.write (.mp ag' (setA l (ev σ x) L)) ho (by simp) rfl hb (fun k hk => by simp [Array.getElem?_setIfInBounds_ne (Ne.symm hk)]) (by simp) rfl rfl rfl)
        (h.writeX (ob' := .mp ag' (setA l (ev σ x) L)) ho (by simp) rfl hb (fun k hk => by simp [Array.getElem?_setIfInBounds_ne (Ne.symm hk)]) (by simp) fun os' hR => ⟨b, f', hb, by simp [hbs], hL', fun j p hp => ?_⟩) ha hd hK ?_
      · rcases hget j p hp with ⟨h1, h2⟩ | ⟨h1, h2⟩
        · rw [h1, h2]; exact hR _ _ (E x)
        · rw [h2]; exact hR _ _ (hrel j p h1)
      · simp only [execOp, hcv, hkv, Sem.run_bind, hrun, Result.andThen_ok, Sem.run_pure]
    · exact hW.elim
  case mapEntry t m k =>
    simp only at hW
    split at hW
    · rename_i ag l id ag' L z hki hmx hzz
      obtain ⟨⟨hkm, rfl, hl, hk8⟩, hK⟩ := hW
      obtain ⟨kt, ht⟩ := ty_map hk8
      obtain ⟨_, ho, b, f, hb, hcv, hheap, hL, hrel⟩ := mpOf_obj h (E m) hmx
      have hkv := keyOf_val (E k) hki hl
      have hz : ∀ kt' et', P.underlying t = some (.map kt' et') → (zeroValue et').run P γ.w = .ok z γ.w := by
        intro kt' et' h'
        rw [ht] at h'
        cases h'
        unfold zeroV at hzz
        split at hzz
        · rename_i ii hi
          simp [zeroValue, typeInfo, hi, hzz]
        · cases hzz
      obtain ⟨f', hrun, hL', hget⟩ := run_entryA (P := P) hkm hz hheap hL hl
      have hbs : b < γ.w.heap.size := (Array.getElem?_eq_some_iff.1 hheap).1
      have hold : RelV σ.objs γ.w γ.Z γ.blk ((getA l L).getD (.lit z)) (((findA l L 0).map f).getD z) := by
        unfold getA
        cases hf : findA l L 0 with
        | none => exact .lit z
        | some q =>
          obtain ⟨_, u, hu⟩ := findA_some hf
          rw [Nat.sub_zero] at hu
          simp only [Option.bind_some, hu, Option.map_some, Option.getD_some]
          exact hrel q _ hu
      generalize (getA l L).getD (.lit z) = v at *
      generalize ((findA l L 0).map f).getD z = cv at *
      have hR0 : ∀ x y, RelV σ.objs γ.w γ.Z γ.blk x y → RelV (σ.objs.set id (.mp ag' (setA l v L))) { γ.w with heap := γ.w.heap.setIfInBounds b (.map (mkEs (mpE ag' f' (setA l v L))) (setA l v L).length) } γ.Z γ.blk x y :=
        h.wrR (ob' := .mp ag' (setA l v L)) ho (by simp) rfl hb (fun k hk => by simp [Array.getElem?_setIfInBounds_ne (Ne.symm hk)])
      refine out_put' (σ1 := { σ with objs := σ.objs.set id (.mp ag' (setA l v L)) }) (γ1 := { γ with w := { γ.w with heap := γ.w.heap.setIfInBounds b (.map (mkEs (mpE ag' f' (setA l v L))) (setA l v L).length) } })
        (Fr.write (.mp ag' (setA l v L)) ho (by simp) rfl hb (fun k hk => by simp [Array.getElem?_setIfInBounds_ne (Ne.symm hk)]) (by simp) rfl rfl rfl)
        (h.writeX (ob' := .mp ag' (setA l v L)) ho (by simp) rfl hb (fun k hk => by simp [Array.getElem?_setIfInBounds_ne (Ne.symm hk)]) (by simp) fun os' hR => ⟨b, f', hb, by simp [hbs], hL', fun j p hp => ?_⟩) ha hd
        (v := .tup [v, .lit (.int .i64 (idxA l L : Nat))]) (cv := .tuple #[cv, .int .i64 (idxA l L : Nat)]) (.tup _ _ rfl fun j x hx => ?_) hK ?_
      · rcases hget j p hp with ⟨h1, h2⟩ | ⟨h1, h2⟩
        · rw [h1, h2]; exact hR _ _ hold
        · rw [h2]; exact hR _ _ (hrel j p h1)
      · match j, hx with
        | 0, hx => cases hx; exact hR0 _ _ hold
        | 1, hx => cases hx; exact .lit _
      · simp only [execOp, hcv, hkv, Sem.run_bind, hrun, Result.andThen_ok, Sem.run_pure]
    · exact hW.elim
  case entryStore t m s x =>
    simp only at hW
    split at hW
    · rename_i n id ag L hs hmx
      obtain ⟨⟨hn0, hn1⟩, hK⟩ := hW
      obtain ⟨_, ho, b, f, hb, hcv, hheap, hL, hrel⟩ := mpOf_obj h (E m) hmx
      have hsv := E s
      rw [hs] at hsv
      have hsl := hsv.lit_inv
      have hn : n = ((n.toNat : Nat) : Int) := by omega
      have hrun := run_putA (P := P) (t := t) hheap (n := n.toNat) (by omega) (ev σ x) (a.eval x)
      rw [← hn] at hrun
      have hbs : b < γ.w.heap.size := (Array.getElem?_eq_some_iff.1 hheap).1
      refine out_skip (σ1 := { σ with objs := σ.objs.set id (.mp ag (putA n.toNat (ev σ x) L)) }) (γ1 := { γ with w := { γ.w with heap := γ.w.heap.setIfInBounds b (.map (mkEs (mpE ag (fun j => if j = n.toNat then a.eval x else f j) (putA n.toNat (ev σ x) L))) (putA n.toNat (ev σ x) L).length) } })
        (Fr.write (.mp ag (putA n.toNat (ev σ x) L)) ho (by simp) rfl hb (fun k hk => by simp [Array.getElem?_setIfInBounds_ne (Ne.symm hk)]) (by simp) rfl rfl rfl)
        (h.writeX (ob' := .mp ag (putA n.toNat (ev σ x) L)) ho (by simp) rfl hb (fun k hk => by simp [Array.getElem?_setIfInBounds_ne (Ne.symm hk)]) (by simp) fun os' hR => ⟨b, fun j => if j = n.toNat then a.eval x else f j, hb, by simp only [Array.getElem?_setIfInBounds_self_of_lt hbs], fun p hp => ?_, fun j p hp => ?_⟩) ha hd hK ?_
      · unfold putA at hp
        rcases List.mem_or_eq_of_mem_set hp with hp | hp
        · exact hL p hp
        · have hn2 : n.toNat < L.length := by omega
          rw [hp, List.getD_eq_getElem?_getD, List.getElem?_eq_getElem hn2]
          exact hL L[n.toNat] (List.getElem_mem hn2)
      · unfold putA at hp
        simp only [List.getElem?_set] at hp
        by_cases hj : n.toNat = j
        · subst hj
          rw [if_pos rfl, if_pos (by omega)] at hp
          cases hp
          dsimp only
          rw [if_pos rfl]
          exact hR _ _ (E x)
        · rw [if_neg hj] at hp
          dsimp only
          rw [if_neg (Ne.symm hj)]
          exact hR _ _ (hrel j p hp)
      · simp only [execOp, hcv, hsl, Sem.run_bind, hrun, Result.andThen_ok, Sem.run_pure]
    · exact hW.elim
  case index t x i =>
    simp only at hW
    split at hW
    · rename_i s k n hs hi
      obtain ⟨⟨hu, hn0, hn1⟩, hK⟩ := hW
      have hx := E x
      rw [hs] at hx
      have hj := E i
      rw [hi] at hj
      have hlt : n.toNat < s.size := by omega
      have hg : s[n.toNat]? = some s[n.toNat] := by simp [hlt]
      refine out_put h ha hd (.lit _) hK ?_
      simp only [execOp, hx.lit_inv, hj.lit_inv, Instr.index, asIntOf, Sem.run_bind, Sem.run_pure, Result.andThen_ok, run_underlying hu, if_pos hn0, hg, strB]
    · exact hW.elim
  case makeInterface t x =>
    simp only at hW
    obtain ⟨h1, hK⟩ := hW
    refine out_put h ha hd (v := .ifc t (ev σ x)) (cv := .iface t (a.eval x)) (.ifc _ _ _ (E x)) hK ?_
    unfold ifaceB at h1
    cases hu : P.underlying t with
    | none => simp [hu] at h1
    | some d => cases d <;> simp [hu] at h1 <;> simp [execOp, Instr.makeInterface, run_underlying hu]
  case typeAssert x xt asserted ok =>
    simp only at hW
    have hx := E x
    split at hW
    · rename_i t v he
      rw [he] at hx
      obtain ⟨cx, hc, hv⟩ := hx.ifc_inv
      obtain ⟨⟨h1, rfl, rfl⟩, hK⟩ := hW
      refine out_put h ha hd hv hK ?_
      unfold ifaceB at h1
      cases hu : P.underlying t with
      | none => simp [hu] at h1
      | some d => cases d <;> simp [hu] at h1 <;> simp [execOp, hc, Instr.typeAssert, run_underlying hu]
    · exact hW.elim
  case makeFunc fn first captured =>
    simp only at hW
    split at hW
    · rename_i f
      obtain ⟨hf, hK⟩ := hW
      have hfe : first = #[] := Array.eq_empty_of_size_eq_zero hf
      subst hfe
      refine out_put h ha hd (v := .fn f (captured.toList.map (ev σ))) (cv := .func (.func f) #[] (captured.map a.eval)) ?_ hK (by simp [execOp, Instr.makeFunc])
      refine .fn _ _ _ (by simp) (fun j x hj => ?_)
      simp only [List.getElem?_map] at hj
      cases hc : captured.toList[j]? with
      | none => simp [hc] at hj
      | some y =>
        simp [hc] at hj
        subst hj
        simp only [Array.getElem?_toList] at hc
        simp [Array.getD_eq_getD_getElem?, hc]
        exact E y
    · exact hW.elim
  case makeSlice t l c =>
    simp only at hW
    have hl := E l
    have hc := E c
    split at hW
    · rename_i z k n k' n' hk hz he hf
      rw [he] at hl
      rw [hf] at hc
      obtain ⟨⟨hke, h0, hzl, rfl, hn0, hn1, hby, _⟩, hK, _⟩ := hW
      have ht := ty_slice hk
      obtain ⟨i, d, hi, hud, hsize, hbytes, hzero⟩ := ty_info hke
      obtain ⟨zv, hzv, hzc⟩ : ∃ zv, i.zero = some zv ∧ zv.cells = z.toArray := by
        rw [hzero] at hz
        cases hv : i.zero with
        | none => simp [hv] at hz
        | some v => simp [hv] at hz; exact ⟨v, rfl, by rw [← hz]⟩
      have hb : (i.bytes : Int) * n' ≤ 281474976710656 := by
        have h1 : (i.bytes : Int) ≤ 128 := by rw [← hbytes]; exact_mod_cast hby
        have h2 : (i.bytes : Int) * n' ≤ 128 * n' := Int.mul_le_mul_of_nonneg_right h1 hn0
        omega
      have hr := run_make (P := P) γ.w t _ i zv ht hi hzv k k' n' n' hn0 (Int.le_refl _) hb (by omega)
      rw [← hsize, hzc] at hr
      have hzl' : 0 < z.length := by rw [hzl]; exact h0
      obtain ⟨z1, z2⟩ := zeros_rel (os := σ.objs) (w := γ.w) (Z := γ.Z) (blk := γ.blk) z n'.toNat (n'.toNat * (ty P (ty P t).elem).size) (by rw [hzl]) hzl'
      refine alloc_out (ob := .arr (ty P (ty P t).elem).size (List.replicate n'.toNat (z.map .lit))) (cv := .slice (some ⟨γ.w.heap.size, 0, none⟩) n'.toNat n'.toNat) (cap := n'.toNat) (cur := madeCells z.toArray (n'.toNat * (ty P (ty P t).elem).size)) (t := (ty P t).elem) h ha hd ?_ ?_ hK ?_
      · refine ⟨h0, ?_, by rw [size_madeCells]; omega, by simp, by unfold maxLen; omega, ?_⟩
        · intro row hrow
          simp only [List.mem_replicate] at hrow
          rw [hrow.2]; simp [hzl]
        · intro r c v hv
          rw [Nat.zero_add]
          have hrl : r < n'.toNat := by
            simp only [cellAt, Option.bind_eq_some_iff] at hv
            obtain ⟨y, hy, _⟩ := hv
            have := (List.getElem?_eq_some_iff.1 hy).1
            simpa using this
          simp only [cellAt, List.getElem?_replicate, hrl, if_true, Option.bind_some] at hv
          have hcl : c < (ty P (ty P t).elem).size := by
            have := (List.getElem?_eq_some_iff.1 hv).1
            simp at this; omega
          have hlt := flat_lt hrl hcl
          have hx : ((List.range n'.toNat).flatMap fun _ => z.map AV.lit)[r * (ty P (ty P t).elem).size + c]? = some v := by
            have key : ∀ (m r : Nat), r < m → ((List.range m).flatMap fun _ => z.map AV.lit)[r * z.length + c]? = (z.map AV.lit)[c]? := by
              intro m
              have hlen : ∀ m, ((List.range m).flatMap fun _ => z.map AV.lit).length = m * z.length := by
                intro m
                induction m with
                | zero => simp
                | succ m ih => rw [List.range_succ, List.flatMap_append, List.length_append, ih]; simp [Nat.add_mul]
              induction m with
              | zero => intro r hr; omega
              | succ m ih =>
                intro r hr
                rw [List.range_succ, List.flatMap_append]
                by_cases hrm : r < m
                · rw [List.getElem?_append_left (by rw [hlen, hzl]; exact flat_lt hrm hcl)]
                  exact ih r hrm
                · have : r = m := by omega
                  subst this
                  rw [List.getElem?_append_right (by rw [hlen]; omega), hlen]
                  simp
            rw [← hzl, key _ _ hrl]
            exact hv
          exact z2 _ _ hx
      · have := RelV.ref (os := σ.objs ++ [.arr (ty P (ty P t).elem).size (List.replicate n'.toNat (z.map .lit))]) (w := γ.w.alloc (.cells (madeCells z.toArray (n'.toNat * (ty P (ty P t).elem).size)) (ty P t).elem)) (Z := γ.Z) (blk := updB γ.blk σ.objs.length (some (γ.w.heap.size, 0, n'.toNat)))
          σ.objs.length (ty P (ty P t).elem).size 0 n'.toNat γ.w.heap.size 0 n'.toNat n'.toNat _ (List.getElem?_concat_length ..) (by simp [updB]) (by simp) (by omega) (Nat.le_refl _)
        simpa using this
      · simp only [execOp, Sem.run_bind, hl.lit_inv, hc.lit_inv, hr, Result.andThen_ok, Sem.run_pure]
    · exact hW.elim
  case fieldAddr s x f =>
    simp only at hW
    have hx := E x
    split at hW
    · rename_i off ft size hk hfl
      obtain ⟨hsz, hW⟩ := hW
      obtain ⟨fs, hu, hfs⟩ := ty_struct hk
      obtain ⟨fd, hfd, hfo, hft⟩ : ∃ fd : Field, fs[f]? = some fd ∧ fd.offset = off ∧ sizeT P fd.type = size := by
        rw [hfs] at hfl
        simp only [List.getElem?_map, Array.getElem?_toList] at hfl
        cases hg : fs[f]? with
        | none => simp [hg] at hfl
        | some fd => simp [hg] at hfl; exact ⟨fd, rfl, hfl.1, hfl.2.2⟩
      have hrun : ∀ (b o : Nat), (Instr.fieldAt s (.pointer (some ⟨b, o, none⟩)) f).run P γ.w = .ok (.pointer (some ⟨b, o + off, none⟩)) γ.w := by
        intro b o
        have hso : (sizeOf fd.type).run P γ.w = .ok size γ.w := by
          rw [← hft]
          unfold sizeT at hft ⊢
          cases hi : P.info? fd.type with
          | none => rw [hi] at hft; simp at hft; omega
          | some i => simp [sizeOf, typeInfo, hi]
        have hne : ¬ size = 0 := by omega
        simp [Instr.fieldAt, run_underlying hu, hfd, Instr.sureAddr, fieldPlace, hso, hne, Addr.add_none, hfo]
      split at hW
      · rename_i id r c he
        rw [he] at hx
        cases ho : σ.objs[id]? with
        | none => simp [ho] at hW
        | some ob =>
          have hlive : ob ≠ .gone ∧ K (σ.put dst (.ptr id r (c + off))) := by cases ob <;> simp [ho] at hW ⊢ <;> exact hW
          rcases hx.ptr_inv with hg | ⟨b, cap, cells, h1, h2, rfl, hcv⟩ | ⟨sz, b, o, cap, rows, h1, h2, hcv⟩
          · rw [ho] at hg; simp at hg; exact absurd hg hlive.1
          · exact out_put h ha hd (.ptrV id (c + off) b cap cells h1 h2) hlive.2 (by simp only [execOp, Sem.run_bind, hcv, hrun, Result.andThen_ok, Sem.run_pure])
          · refine out_put h ha hd (.ptrA id r (c + off) sz b o cap rows h1 h2) hlive.2 ?_
            simp only [execOp, Sem.run_bind, hcv, hrun, Result.andThen_ok, Sem.run_pure]
            simp [Nat.add_assoc]
      · rename_i cells he
        rw [he] at hx
        obtain ⟨b, o, g, hcv, h1, h2, h3⟩ := hx.taddr_inv
        refine out_put h ha hd (.taddr (cells.drop off) b (o + off) (fun j => g (off + j)) h1 ?_ ?_) hW ?_
        · intro j x hj
          rw [List.getElem?_drop] at hj
          have := h2 _ _ hj
          simpa [Nat.add_assoc] using this
        · intro j x hj
          rw [List.getElem?_drop] at hj
          exact h3 _ _ hj
        · simp only [execOp, Sem.run_bind, hcv, hrun, Result.andThen_ok, Sem.run_pure]
      · exact hW.elim
    · exact hW.elim
  case extract x i =>
    simp only at hW
    have hx := E x
    split at hW
    · rename_i vs he
      rw [he] at hx
      obtain ⟨cvs, hcv, hs, hr⟩ := hx.tup_inv
      split at hW
      · rename_i v hv
        have hi : i < cvs.size := by rw [hs]; exact (List.getElem?_eq_some_iff.1 hv).1
        refine out_put h ha hd (hr i v hv) hW ?_
        simp [execOp, hcv, Instr.extract, hi, Array.getD_eq_getD_getElem?]
      · exact hW.elim
    · exact hW.elim
  case field s x f =>
    simp only at hW
    have hx := E x
    split at hW
    · rename_i off ft size hk hfl
      obtain ⟨hke, hsize, hW⟩ := hW
      obtain ⟨fs, hu, hfs⟩ := ty_struct hk
      obtain ⟨fd, hfd, hfo, hft⟩ : ∃ fd : Field, fs[f]? = some fd ∧ fd.offset = off ∧ fd.type = ft := by
        rw [hfs] at hfl
        simp only [List.getElem?_map, Array.getElem?_toList] at hfl
        cases hg : fs[f]? with
        | none => simp [hg] at hfl
        | some fd => simp [hg] at hfl; exact ⟨fd, rfl, hfl.1, hfl.2.1⟩
      subst hfo
      subst hft
      split at hW
      · rename_i cs he
        rw [he] at hx
        obtain ⟨cvs, hcv, hs, hr⟩ := hx.agg_inv
        split at hW
        · rename_i hag
          refine out_put h ha hd (v := .agg ((cs.drop fd.offset).take size)) (cv := .agg (cvs.extract fd.offset (fd.offset + size))) ?_ hW.2 ?_
          · have h1 := hW.1
            refine .agg _ _ (by simp; omega) (fun j y hj => ?_)
            have hjl : j < size := by have := (List.getElem?_eq_some_iff.1 hj).1; simp at this; omega
            rw [List.getElem?_take, if_pos hjl, List.getElem?_drop] at hj
            have := hr _ _ hj
            simp [Array.getD_eq_getD_getElem?, Array.getElem?_extract] at this ⊢
            rw [if_pos (by omega)]
            exact this
          · simp [execOp, hcv, Instr.field, run_underlying hu, hfd, asAgg, part, run_isAgg hke, run_sizeOf hke, hag, hsize]
        · rename_i hag
          split at hW
          · rename_i v hv
            have hi : fd.offset < cvs.size := by rw [hs]; exact (List.getElem?_eq_some_iff.1 hv).1
            refine out_put h ha hd (hr _ v hv) hW ?_
            simp [execOp, hcv, Instr.field, run_underlying hu, hfd, asAgg, part, run_isAgg hke, hag, hi, Array.getD_eq_getD_getElem?]
          · exact hW.elim
      · exact hW.elim
    · exact hW.elim
  case indexAddr t x i =>
    simp only at hW
    have hx := E x
    have hi := E i
    split at hW
    · rename_i id sz off len k n hk he hf
      rw [he] at hx
      rw [hf] at hi
      split at hW
      · rename_i sz' rows ho
        obtain ⟨⟨rfl, hsz, hke, h0, h1⟩, hK⟩ := hW
        have ht := ty_slice hk
        rcases hx.ref_inv with hg | ⟨_, _, _, rfl, _⟩ | ⟨rfl, _⟩ | ⟨b, o, cap, cap', rows', g1, g2, g3, g4, g5, hcv⟩
        · rw [ho] at hg; simp at hg
        · omega
        · omega
        · refine out_put h ha hd (.ptrA id (off + n.toNat) 0 _ b o cap rows' g1 g2) hK ?_
          have hc : 0 ≤ n ∧ n < (len : Int) := ⟨h0, h1⟩
          simp only [execOp, Sem.run_bind, Instr.indexAt, hcv, hi.lit_inv, asIntOf, Sem.run_pure, Result.andThen_ok, run_underlying ht, Sem.run_ite, hc, and_self, if_true, run_sizeOf hke, ← hsz, Addr.add_none]
          simp [Nat.add_mul, Nat.add_assoc]
      · exact hW.elim
    · rename_i sz rows k n hk he hf
      rw [he] at hx
      rw [hf] at hi
      obtain ⟨⟨hsz, hke, h0, h1⟩, hK⟩ := hW
      have ht := ty_slice hk
      rcases hx.tree_inv.inv with ⟨ad, cap, rfl, hcv⟩ | ⟨b, o, cap, f, hcv, g1, g2, g3, g4, g5⟩
      · simp at h1; omega
      · have hn : n.toNat < rows.length := by omega
        refine out_put h ha hd (.taddr (rows.getD n.toNat []) b (o + n.toNat * sz) (fun j => f n.toNat j) g1 ?_ ?_) hK ?_
        · intro j y hj
          have : cellAt rows n.toNat j = some y := by
            rw [List.getD_eq_getElem?_getD] at hj
            simp [hn] at hj
            simp [cellAt, hn, hj]
          have := g4 _ _ _ this
          simpa [Nat.add_assoc] using this
        · intro j y hj
          have : cellAt rows n.toNat j = some y := by
            rw [List.getD_eq_getElem?_getD] at hj
            simp [hn] at hj
            simp [cellAt, hn, hj]
          exact g5 _ _ _ this
        · have hc : 0 ≤ n ∧ n < (rows.length : Int) := ⟨h0, by omega⟩
          simp only [execOp, Sem.run_bind, Instr.indexAt, hcv, hi.lit_inv, asIntOf, Sem.run_pure, Result.andThen_ok, run_underlying ht, Sem.run_ite, hc, and_self, if_true, run_sizeOf hke, ← hsz, Addr.add_none]
    · rename_i id r c k n hk he hf
      rw [he] at hx
      rw [hf] at hi
      cases ho : σ.objs[id]? with
      | none => simp [ho] at hW
      | some ob =>
        have hlive : ob ≠ .gone ∧ ((ty P (ty P t).elem).kind ≠ 99 ∧ 0 ≤ n ∧ n < (ty P t).len) ∧ K (σ.put dst (.ptr id r (c + n.toNat * (ty P (ty P t).elem).size))) := by cases ob <;> simp [ho] at hW ⊢ <;> exact hW
        obtain ⟨hg0, ⟨hke, h0, h1⟩, hK⟩ := hlive
        have ht := ty_array hk
        have hc : 0 ≤ n ∧ n < ((ty P t).len : Int) := ⟨h0, h1⟩
        rcases hx.ptr_inv with hg | ⟨b, cap, cells, h1, h2, rfl, hcv⟩ | ⟨sz, b, o, cap, rows, h1, h2, hcv⟩
        · rw [ho] at hg; simp at hg; exact absurd hg hg0
        · refine out_put h ha hd (.ptrV id _ b cap cells h1 h2) hK ?_
          simp only [execOp, Sem.run_bind, Instr.indexAt, hcv, hi.lit_inv, asIntOf, Sem.run_pure, Result.andThen_ok, run_underlying ht, Instr.sureAddr, Sem.run_ite, hc, and_self, if_true, run_sizeOf hke, Addr.add_none]
        · refine out_put h ha hd (.ptrA id r _ sz b o cap rows h1 h2) hK ?_
          simp only [execOp, Sem.run_bind, Instr.indexAt, hcv, hi.lit_inv, asIntOf, Sem.run_pure, Result.andThen_ok, run_underlying ht, Instr.sureAddr, Sem.run_ite, hc, and_self, if_true, run_sizeOf hke, Addr.add_none]
          simp [Nat.add_assoc]
    · rename_i cells k n hk he hf
      rw [he] at hx
      rw [hf] at hi
      obtain ⟨⟨hke, h0, h1⟩, hK⟩ := hW
      have ht := ty_array hk
      have hc : 0 ≤ n ∧ n < ((ty P t).len : Int) := ⟨h0, h1⟩
      obtain ⟨b, o, g, hcv, g1, g2, g3⟩ := hx.taddr_inv
      refine out_put h ha hd (.taddr (cells.drop (n.toNat * (ty P (ty P t).elem).size)) b (o + n.toNat * (ty P (ty P t).elem).size) (fun j => g (n.toNat * (ty P (ty P t).elem).size + j)) g1 ?_ ?_) hK ?_
      · intro j x hj
        rw [List.getElem?_drop] at hj
        rw [Nat.add_assoc]
        exact g2 _ _ hj
      · intro j x hj
        rw [List.getElem?_drop] at hj
        exact g3 _ _ hj
      · simp only [execOp, Sem.run_bind, Instr.indexAt, hcv, hi.lit_inv, asIntOf, Sem.run_pure, Result.andThen_ok, run_underlying ht, Instr.sureAddr, Sem.run_ite, hc, and_self, if_true, run_sizeOf hke, Addr.add_none]
    · exact hW.elim
  case slice t x lo hi mx =>
    simp only at hW
    obtain ⟨hk, hke, rfl, hW⟩ := hW
    have ht := ty_slice hk
    have hx := E x
    -- one run for all forms
    have hrun : ∀ (ad : Option Addr) (len cap l h : Nat) (lo hi : Option Value), (lo = none ∧ l = 0 ∨ ∃ k, lo = some (.int k (l : Int))) → (hi = none ∧ h = len ∨ ∃ k, hi = some (.int k (h : Int))) → l ≤ h → h ≤ cap →
        (ty P (ty P t).elem).kind ≠ 99 → (Instr.sliceAt t (.slice ad len cap) lo hi none).run P γ.w = .ok (.slice (if cap = l then ad else ad.map (·.add (l * (ty P (ty P t).elem).size))) (h - l) (cap - l)) γ.w := by
      intro ad len cap l h lo hi hlo hhi h1 h2 hke
      have c1 : (l : Int) ≤ h := by omega
      have c2 : (h : Int) ≤ cap := by omega
      rcases hlo with ⟨rfl, rfl⟩ | ⟨k, rfl⟩ <;> rcases hhi with ⟨rfl, rfl⟩ | ⟨k', rfl⟩ <;>
        simp [Instr.sliceAt, Instr.slice, Instr.sliceBounds, Instr.sliceBound, asIntOf, run_underlying ht, run_sizeOf hke, h1, h2]
    split at hW
    · rename_i id sz off len he
      rw [he] at hx
      split at hW
      · rename_i sz' rows ho
        obtain ⟨rfl, hsz, hW⟩ := hW
        obtain ⟨h0, hrl, _⟩ := h.obs _ _ ho
        -- the reslice, for numbers
        have key : ∀ (l hh : Nat) (lo' hi' : Option Operand), (lo'.map a.eval = none ∧ l = 0 ∨ ∃ k, lo'.map a.eval = some (.int k (l : Int))) → (hi'.map a.eval = none ∧ hh = len ∨ ∃ k, hi'.map a.eval = some (.int k (hh : Int))) → l ≤ hh → hh ≤ len →
            K (σ.put dst (.ref id sz' (off + l) (hh - l))) → OpOut ⟨dst, .slice t x lo' hi' none, type, pos, after, guard⟩ σ γ a K ((execOp a.eval ⟨dst, .slice t x lo' hi' none, type, pos, after, guard⟩).run P γ.w) := by
          intro l hh lo' hi' hlo hhi h1 h2 hK
          rcases hx.ref_inv with hg | ⟨g1, g2, rfl, rfl, hcv⟩ | ⟨rfl, b, xx, bo, rows', g1, g2, g3, hcv⟩ | ⟨b, o, cap, cap', rows', g1, g2, g3, g4, g5, hcv⟩
          · rw [ho] at hg; simp at hg
          · have : l = 0 := by omega
            subst this
            have : hh = 0 := by omega
            subst this
            refine out_put (o := ⟨dst, .slice t x lo' hi' none, type, pos, after, guard⟩) h ha hd (.refNil id _ g1 g2) hK ?_
            have := hrun none 0 0 0 0 _ _ hlo hhi (by omega) (by omega) hke
            simp only [execOp, Sem.run_bind, hcv, Option.map_none, this, Result.andThen_ok, Sem.run_pure]
            simp
          · have : l = 0 := by omega
            subst this
            have : hh = 0 := by omega
            subst this
            refine out_put (o := ⟨dst, .slice t x lo' hi' none, type, pos, after, guard⟩) h ha hd (.refEnd id _ _ b xx bo rows' g1 g2 (by omega)) hK ?_
            have := hrun (some ⟨b, xx, none⟩) 0 0 0 0 _ _ hlo hhi (by omega) (by omega) hke
            simp only [execOp, Sem.run_bind, hcv, Option.map_none, this, Result.andThen_ok, Sem.run_pure]
            simp
          · have hr := hrun (some ⟨b, o + off * sz', none⟩) len cap' l hh _ _ hlo hhi h1 (by omega) hke
            by_cases hm : cap' = l
            · have e1 : hh = l := by omega
              subst e1
              rw [if_pos hm] at hr
              have e2 : hh - hh = 0 := by omega
              have e3 : cap' - hh = 0 := by omega
              rw [e2, e3] at hr
              rw [e2] at hK
              refine out_put (o := ⟨dst, .slice t x lo' hi' none, type, pos, after, guard⟩) h ha hd (.refEnd id _ _ b (o + off * sz') (o, cap) rows' g1 g2 (by omega)) hK ?_
              simp only [execOp, Sem.run_bind, hcv, Option.map_none, hr, Result.andThen_ok, Sem.run_pure]
            · rw [if_neg hm] at hr
              refine out_put (o := ⟨dst, .slice t x lo' hi' none, type, pos, after, guard⟩) h ha hd (.ref id _ (off + l) (hh - l) b o cap (cap' - l) rows' g1 g2 (by omega) (by omega) (by omega)) hK ?_
              simp only [execOp, Sem.run_bind, hcv, Option.map_none, hr, Result.andThen_ok, Sem.run_pure, Option.map_some, Addr.add_none, ← hsz]
              simp [Nat.add_mul, Nat.add_assoc]
        split at hW
        · rename_i e1 e2
          have hlo : lo = none := by cases lo <;> simp at e1 ⊢
          have hhi : hi = none := by cases hi <;> simp at e2 ⊢
          subst hlo; subst hhi
          exact key 0 len none none (.inl ⟨rfl, rfl⟩) (.inl ⟨rfl, rfl⟩) (by omega) (Nat.le_refl _) (by simpa using hW)
        · rename_i k l e1 e2
          have hhi : hi = none := by cases hi <;> simp at e2 ⊢
          subst hhi
          obtain ⟨lo, rfl, f1⟩ : ∃ y, lo = some y ∧ ev σ y = .lit (.int k l) := by cases lo <;> simp at e1 ⊢; exact e1
          obtain ⟨⟨c1, c2, _⟩, hK⟩ := hW
          have hl := E lo
          rw [f1] at hl
          refine key l.toNat len (some lo) none (.inr ⟨k, ?_⟩) (.inl ⟨rfl, rfl⟩) (by omega) (Nat.le_refl _) hK
          simp [hl.lit_inv]; omega
        · rename_i k hh e1 e2
          have hlo : lo = none := by cases lo <;> simp at e1 ⊢
          subst hlo
          obtain ⟨hi, rfl, f2⟩ : ∃ y, hi = some y ∧ ev σ y = .lit (.int k hh) := by cases hi <;> simp at e2 ⊢; exact e2
          obtain ⟨⟨c1, c2⟩, hK⟩ := hW
          have hl := E hi
          rw [f2] at hl
          refine key 0 hh.toNat none (some hi) (.inl ⟨rfl, rfl⟩) (.inr ⟨k, ?_⟩) (by omega) (by omega) (by simpa using hK)
          simp [hl.lit_inv]; omega
        · rename_i k l k' hh e1 e2
          obtain ⟨lo, rfl, f1⟩ : ∃ y, lo = some y ∧ ev σ y = .lit (.int k l) := by cases lo <;> simp at e1 ⊢; exact e1
          obtain ⟨hi, rfl, f2⟩ : ∃ y, hi = some y ∧ ev σ y = .lit (.int k' hh) := by cases hi <;> simp at e2 ⊢; exact e2
          obtain ⟨⟨c1, c2, c3⟩, hK⟩ := hW
          have hl := E lo
          have hhv := E hi
          rw [f1] at hl
          rw [f2] at hhv
          refine key l.toNat hh.toNat (some lo) (some hi) (.inr ⟨k, ?_⟩) (.inr ⟨k', ?_⟩) (by omega) (by omega) hK
          · simp [hl.lit_inv]; omega
          · simp [hhv.lit_inv]; omega
        · exact hW.elim
      · exact hW.elim
    · rename_i sz rows he
      rw [he] at hx
      obtain ⟨hsz, hW⟩ := hW
      have key : ∀ (l hh : Nat) (lo' hi' : Option Operand), (lo'.map a.eval = none ∧ l = 0 ∨ ∃ k, lo'.map a.eval = some (.int k (l : Int))) → (hi'.map a.eval = none ∧ hh = rows.length ∨ ∃ k, hi'.map a.eval = some (.int k (hh : Int))) → l ≤ hh → hh ≤ rows.length →
          K (σ.put dst (.tree sz ((rows.drop l).take (hh - l)))) → OpOut ⟨dst, .slice t x lo' hi' none, type, pos, after, guard⟩ σ γ a K ((execOp a.eval ⟨dst, .slice t x lo' hi' none, type, pos, after, guard⟩).run P γ.w) := by
        intro l hh lo' hi' hlo hhi h1 h2 hK
        rcases hx.tree_inv.inv with ⟨ad, cap, rfl, hcv⟩ | ⟨b, o, cap, f, hcv, g1, g2, g3, g4, g5⟩
        · have e1 : hh = 0 := by simpa using h2
          subst e1
          have e2 : l = 0 := by omega
          subst e2
          have hr := hrun ad 0 cap 0 0 _ _ hlo hhi (by omega) (by omega) hke
          refine out_put (o := ⟨dst, .slice t x lo' hi' none, type, pos, after, guard⟩) h ha hd (v := .tree sz (([].drop 0).take (0 - 0))) (cv := .slice (if cap = 0 then ad else ad.map (·.add (0 * (ty P (ty P t).elem).size))) (0 - 0) (cap - 0)) (.frz _ _ (.nil sz (cap - 0) _)) hK ?_
          simp only [execOp, Sem.run_bind, hcv, Option.map_none, hr, Result.andThen_ok, Sem.run_pure]
        · have hr := hrun (some ⟨b, o, none⟩) rows.length cap l hh _ _ hlo hhi h1 (by omega) hke
          by_cases he0 : hh - l = 0
          · have e : (rows.drop l).take (hh - l) = [] := by rw [he0]; simp
            rw [e] at hK
            rw [he0] at hr
            refine out_put (o := ⟨dst, .slice t x lo' hi' none, type, pos, after, guard⟩) h ha hd (v := .tree sz []) (cv := .slice (if cap = l then some ⟨b, o, none⟩ else (some (⟨b, o, none⟩ : Addr)).map (·.add (l * (ty P (ty P t).elem).size))) 0 (cap - l)) (.frz _ _ (.nil sz (cap - l) _)) hK ?_
            simp only [execOp, Sem.run_bind, hcv, Option.map_none, hr, Result.andThen_ok, Sem.run_pure]
          · have hne : ¬ cap = l := by omega
            rw [if_neg hne] at hr
            have hnem : rows ≠ [] := by intro e; subst e; simp at h2; omega
            refine out_put (o := ⟨dst, .slice t x lo' hi' none, type, pos, after, guard⟩) h ha hd (.frz _ _ (TreeR.sub g1 g2 g4 g5 l (hh - l) (cap' := cap - l) (by omega) g3 (by omega))) hK ?_
            simp only [execOp, Sem.run_bind, hcv, Option.map_none, hr, Result.andThen_ok, Sem.run_pure, Option.map_some, Addr.add_none, ← hsz hnem]
      split at hW
      · rename_i e1 e2
        have hlo : lo = none := by cases lo <;> simp at e1 ⊢
        have hhi : hi = none := by cases hi <;> simp at e2 ⊢
        subst hlo; subst hhi
        exact key 0 rows.length none none (.inl ⟨rfl, rfl⟩) (.inl ⟨rfl, rfl⟩) (by omega) (Nat.le_refl _) (by simpa using hW)
      · rename_i k l e1 e2
        have hhi : hi = none := by cases hi <;> simp at e2 ⊢
        subst hhi
        obtain ⟨lo, rfl, f1⟩ : ∃ y, lo = some y ∧ ev σ y = .lit (.int k l) := by cases lo <;> simp at e1 ⊢; exact e1
        obtain ⟨⟨c1, c2⟩, hK⟩ := hW
        have hl := E lo
        rw [f1] at hl
        refine key l.toNat rows.length (some lo) none (.inr ⟨k, ?_⟩) (.inl ⟨rfl, rfl⟩) (by omega) (Nat.le_refl _) ?_
        · simp [hl.lit_inv]; omega
        · have e : (rows.drop l.toNat).take (rows.length - l.toNat) = rows.drop l.toNat := List.take_of_length_le (by simp)
          rw [e]; exact hK
      · rename_i k hh e1 e2
        have hlo : lo = none := by cases lo <;> simp at e1 ⊢
        subst hlo
        obtain ⟨hi, rfl, f2⟩ : ∃ y, hi = some y ∧ ev σ y = .lit (.int k hh) := by cases hi <;> simp at e2 ⊢; exact e2
        obtain ⟨⟨c1, c2⟩, hK⟩ := hW
        have hl := E hi
        rw [f2] at hl
        refine key 0 hh.toNat none (some hi) (.inl ⟨rfl, rfl⟩) (.inr ⟨k, ?_⟩) (by omega) (by omega) (by simpa using hK)
        simp [hl.lit_inv]; omega
      · rename_i k l k' hh e1 e2
        obtain ⟨lo, rfl, f1⟩ : ∃ y, lo = some y ∧ ev σ y = .lit (.int k l) := by cases lo <;> simp at e1 ⊢; exact e1
        obtain ⟨hi, rfl, f2⟩ : ∃ y, hi = some y ∧ ev σ y = .lit (.int k' hh) := by cases hi <;> simp at e2 ⊢; exact e2
        obtain ⟨⟨c1, c2, c3⟩, hK⟩ := hW
        have hl := E lo
        have hhv := E hi
        rw [f1] at hl
        rw [f2] at hhv
        refine key l.toNat hh.toNat (some lo) (some hi) (.inr ⟨k, ?_⟩) (.inr ⟨k', ?_⟩) (by omega) (by omega) ?_
        · simp [hl.lit_inv]; omega
        · simp [hhv.lit_inv]; omega
        · rw [← List.drop_take]; exact hK
      · exact hW.elim
    · exact hW.elim
  case call c =>
    obtain ⟨callee, args, argTypes⟩ := c
    have hargs : ∀ l, args.toList = l → args = l.toArray := by intro l h; rw [← h]
    have hargT : ∀ l, argTypes.toList = l → argTypes = l.toArray := by intro l h; rw [← h]
    cases callee with
    | value f => exact hW.elim
    | invoke r m => exact hW.elim
    | builtin b =>
      cases b
      case len =>
        simp only at hW
        split at hW
        · rename_i x t hx' ht'
          have ea := hargs _ hx'
          have et := hargT _ ht'
          subst ea
          subst et
          have hx := E x
          have hrun : (ty P t).kind = 1 → ∀ ad n c, a.eval x = .slice ad n c → (execOp a.eval ⟨dst, .call ⟨.builtin .len, [x].toArray, [t].toArray⟩, type, pos, after, guard⟩).run P γ.w = .ok (.value (.int .i64 (n : Int))) γ.w := by
            intro hk ad n c hc
            have ht := ty_slice hk
            simp [execOp, resolve, invoke, builtin, Builtin.len_, run_underlying ht, hc, goInt]
          split at hW
          · rename_i id sz off len he
            rw [he] at hx
            obtain ⟨hk, hW⟩ := hW
            split at hW
            · rename_i sz' rows ho
              rcases hx.ref_inv with hg | ⟨_, _, _, rfl, hcv⟩ | ⟨rfl, _, _, _, _, _, _, _, hcv⟩ | ⟨b, o, cap, cap', rows', g1, g2, g3, g4, g5, hcv⟩
              · rw [ho] at hg; simp at hg
              · exact out_put h ha hd (.lit _) hW.2 (hrun hk _ _ _ hcv)
              · exact out_put h ha hd (.lit _) hW.2 (hrun hk _ _ _ hcv)
              · exact out_put h ha hd (.lit _) hW.2 (hrun hk _ _ _ hcv)
            · exact hW.elim
          · rename_i sz rows he
            rw [he] at hx
            rcases hx.tree_inv.inv with ⟨ad, cap, rfl, hcv⟩ | ⟨b, o, cap, f, hcv, _⟩
            · exact out_put h ha hd (.lit _) hW.2 (hrun hW.1 _ _ _ hcv)
            · exact out_put h ha hd (.lit _) hW.2 (hrun hW.1 _ _ _ hcv)
          · rename_i he
            rw [he] at hx
            exact out_put h ha hd (.lit _) hW.2 (hrun hW.1 _ _ _ hx.lit_inv)
          · rename_i id he
            obtain ⟨hk, hW⟩ := hW
            split at hW
            · rename_i ag L ho
              obtain ⟨kt, ht⟩ := ty_map hk
              rw [he] at hx
              obtain ⟨_, _, b, f, hb, hcv, hheap, _⟩ := mpOf_obj h hx (id := id) (ag := ag) (L := L) (by simp [mpOf, ho])
              refine out_put h ha hd (.lit _) hW ?_
              simp [execOp, resolve, invoke, builtin, Builtin.len_, run_underlying ht, hcv, goInt, MapKept.run_getObj_map hheap, mkEs, mpE_length]
            · exact hW.elim
          · exact hW.elim
        · exact hW.elim
      case append =>
        simp only at hW
        split at hW
        · rename_i s x t t' hx' ht'
          have ea := hargs _ hx'
          have et := hargT _ ht'
          subst ea
          subst et
          split at hW
          · rename_i z pre σ1 sz src hk hz hdst hsrc
            obtain ⟨⟨rfl, hke, hsz, h0, hzl, hlen, hby, hsc⟩, hK⟩ := hW
            have hdst' : dstRows σ sz (ev σ s) = some (pre, σ1) := by rw [hsz]; exact hdst
            obtain ⟨cv', γ1, h1, h2, h3, h4, h5⟩ := append_sound (P := P) (oty := type) h hk hke hz hsz h0 hzl (E s) (E x) hdst' hsrc hlen (Nat.le_trans hby (by decide)) hsc
            refine out_put' (γ1 := γ1) h4 h3 (by rw [h2]; exact ha) hd h5 hK ?_
            simp [execOp, resolve, invoke, builtin, h1]
          · exact hW.elim
        · exact hW.elim
      case min =>
        simp only at hW
        split at hW
        · rename_i x y hx'
          have ea := hargs _ hx'
          subst ea
          have hx := E x
          have hy := E y
          split at hW
          · rename_i k p k' q he hf
            rw [he] at hx
            rw [hf] at hy
            obtain ⟨rfl, hK⟩ := hW
            refine out_put h ha hd (.lit _) hK ?_
            have e : (if q < p then q else p) = min p q := by simp only [Int.min_def]; split <;> split <;> omega
            simp [execOp, resolve, invoke, builtin, Builtin.min_, Builtin.min2, hx.lit_inv, hy.lit_inv, e]
          · exact hW.elim
        · exact hW.elim
      case max =>
        simp only at hW
        split at hW
        · rename_i x y hx'
          have ea := hargs _ hx'
          subst ea
          have hx := E x
          have hy := E y
          split at hW
          · rename_i k p k' q he hf
            rw [he] at hx
            rw [hf] at hy
            obtain ⟨rfl, hK⟩ := hW
            refine out_put h ha hd (.lit _) hK ?_
            have e : (if q > p then q else p) = max p q := by simp only [Int.max_def]; split <;> split <;> omega
            simp [execOp, resolve, invoke, builtin, Builtin.max_, Builtin.max2, hx.lit_inv, hy.lit_inv, e]
          · exact hW.elim
        · exact hW.elim
      case copy =>
        simp only at hW
        split at hW
        · rename_i s x t t' hx' ht'
          have ea := hargs _ hx'
          have et := hargT _ ht'
          subst ea
          subst et
          have hs := E s
          split at hW
          · rename_i id sz off len sz' src he hsrc
            rw [he] at hs
            split at hW
            · rename_i sz'' rows ho
              obtain ⟨⟨hk, hke, rfl, rfl, hsz, h0, hsc⟩, hK⟩ := hW
              obtain ⟨w', h1, h2, h3⟩ := copy_sound (P := P) (t' := t') (oty := type) h hk hke hsz h0 hs (E x) ho hsrc hsc
              refine out_put' (γ1 := { γ with w := w' }) h3 h2 ha hd (.lit _) hK ?_
              simp [execOp, resolve, invoke, builtin, h1]
            · exact hW.elim
          · exact hW.elim
        · exact hW.elim
      case clear =>
        simp only at hW
        split at hW
        · rename_i s t hx' ht'
          have ea := hargs _ hx'
          have et := hargT _ ht'
          subst ea
          subst et
          have hs := E s
          split at hW
          · rename_i id sz off len z he hz
            rw [he] at hs
            split at hW
            · rename_i sz' rows ho
              obtain ⟨⟨hk, hke, rfl, hzl, h0, hz1⟩, hK⟩ := hW
              obtain ⟨w', h1, h2, h3⟩ := clear_sound (P := P) (oty := type) h hk hke hzl h0 hz hz1 hs ho
              refine out_put' (γ1 := { γ with w := w' }) h3 h2 ha hd (.lit _) hK ?_
              simp [execOp, resolve, invoke, builtin, h1]
            · exact hW.elim
          · exact hW.elim
        · exact hW.elim
      all_goals exact hW.elim
  case convert s d x =>
    simp only at hW
    have hx := E x
    split at hW
    · rename_i k k' n hd' he
      rw [he] at hx
      obtain ⟨hu, hK⟩ := hW
      obtain ⟨u, hu⟩ := Option.isSome_iff_exists.1 hu
      refine out_put h ha hd (.lit _) hK ?_
      simp [execOp, convert, run_underlying hu, run_underlying hd', hx.lit_inv, Conv.intToInt]
    · exact hW.elim
  all_goals exact hW.elim
end Go.Am
end
