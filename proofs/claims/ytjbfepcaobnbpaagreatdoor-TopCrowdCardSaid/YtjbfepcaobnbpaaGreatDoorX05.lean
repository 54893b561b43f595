import Derived.Test.YtjbfepcaobnbpaaGreatDoorX04
set_option linter.unusedVariables false
set_option linter.unusedSimpArgs false
set_option linter.unnecessarySimpa false
set_option linter.unusedSectionVars false
section
namespace Go.Am
variable {P : Program} {N n0 : Nat} {σ : St} {Q : Exit → St → Prop}

/-- an environment, slot by slot -/
def slots : List (Nat × AV) → Nat → AV
  | [] => fun _ => .undef
  | p :: l => upd (slots l) p.1 p.2

theorem slots_cons (d : Nat) (v : AV) (l : List (Nat × AV)) : slots ((d, v) :: l) = upd (slots l) d v := rfl

theorem slots_or (l : List (Nat × AV)) (k : Nat) : slots l k = .undef ∨ ∃ p ∈ l, p.1 = k ∧ slots l k = p.2 := by
  induction l with
  | nil => exact .inl rfl
  | cons p l ih =>
    by_cases h : k = p.1
    · right
      exact ⟨p, by simp, h.symm, by simp [slots, upd, h]⟩
    · have e : slots (p :: l) k = slots l k := by simp [slots, upd, h]
      rw [e]
      rcases ih with h | ⟨q, hq, h1, h2⟩
      · exact .inl h
      · exact .inr ⟨q, by simp [hq], h1, h2⟩

/-- what some slots hold -/
def Has (e : Nat → AV) : List (Nat × AV) → Prop
  | [] => True
  | p :: l => e p.1 = p.2 ∧ Has e l

theorem Has.mem {e : Nat → AV} : ∀ {l : List (Nat × AV)}, Has e l → ∀ p ∈ l, e p.1 = p.2
  | q :: l, h, p, hp => by
    rcases List.mem_cons.1 hp with rfl | hp
    · exact h.1
    · exact Has.mem h.2 p hp

theorem Turns.slots (l : List (Nat × AV)) (os : List Ob) (ho : σ.objs = os) (h : Has σ.env l) : Turns n0 σ ⟨slots l, os⟩ := by
  subst ho
  refine Turns.forget fun k => ?_
  rcases slots_or l k with h' | ⟨p, hp, rfl, h'⟩
  · exact .inl h'
  · right; rw [h', h.mem p hp]

/-- the objects that are kept -/
def SelO (ρ : Nat → Nat) (os : List Ob) : List Nat → List Ob → Prop
  | [], [] => True
  | i :: sel, o :: co => (i < os.length ∧ (o = .gone ∨ os[i]? = some (renO ρ o))) ∧ SelO ρ os sel co
  | _, _ => False

theorem SelO.spec {ρ : Nat → Nat} {os : List Ob} : ∀ {sel : List Nat} {co : List Ob}, SelO ρ os sel co → co.length = sel.length ∧ (∀ (j : Nat) o, co[j]? = some o → o = .gone ∨ os[sel.getD j 0]? = some (renO ρ o)) ∧ ∀ i ∈ sel, i < os.length
  | [], [], _ => ⟨rfl, by simp, by simp⟩
  | i :: sel, o :: co, h => by
    obtain ⟨⟨h1, h2⟩, h3⟩ := h
    obtain ⟨a, b, c⟩ := SelO.spec h3
    refine ⟨by simp [a], fun j o' hj => ?_, fun x hx => ?_⟩
    · cases j with
      | zero => simp at hj; subst hj; simpa using h2
      | succ j => simpa using b j o' (by simpa using hj)
    · rcases List.mem_cons.1 hx with rfl | hx
      · exact h1
      · exact c x hx

/-- slot by slot: the value there, as it is called from now on -/
def HasR (R : AV → AV → Prop) (e : Nat → AV) : List (Nat × AV) → Prop
  | [] => True
  | p :: l => R p.2 (e p.1) ∧ HasR R e l

theorem HasR.mem {R : AV → AV → Prop} {e : Nat → AV} : ∀ {l : List (Nat × AV)}, HasR R e l → ∀ p ∈ l, R p.2 (e p.1)
  | q :: l, h, p, hp => by
    rcases List.mem_cons.1 hp with rfl | hp
    · exact h.1
    · exact HasR.mem h.2 p hp

/-- the objects that stay objects -/
def kept (sel : List Nat) (co : List Ob) (id : Nat) : Prop := ∃ j, j < sel.length ∧ sel.getD j 0 = id ∧ co[j]? ≠ some .gone

theorem Turns.sel (sel : List Nat) (snap : Bool) (l : List (Nat × AV)) (co : List Ob) (hnd : sel.Nodup) (ho : SelO (rho σ.objs.length sel) σ.objs sel co) (hn : n0 ≤ sel.length) (hid : ∀ i, i < n0 → sel.getD i 0 = i)
    (h : HasR (ArgR σ (kept sel co) (rho σ.objs.length sel) snap) σ.env l) : Turns n0 σ ⟨Am.slots l, co⟩ := by
  obtain ⟨h1, h2, h3⟩ := ho.spec
  refine Turns.select sel snap co _ hnd h1 h2 h3 hn hid fun k => ?_
  rcases slots_or l k with h' | ⟨p, hp, rfl, h'⟩
  · exact .inl h'
  · right; rw [h']; exact h.mem p hp

theorem ArgR.pure {kp : Nat → Prop} {ρ : Nat → Nat} {snap : Bool} {v : AV} (h : noRef v = true) : ArgR σ kp ρ snap v v := by
  have := ArgR.same (σ := σ) (kp := kp) (ρ := ρ) (snap := snap) v
  rwa [ren_noRef _ v h] at this

theorem ArgR.eq {kp : Nat → Prop} {ρ : Nat → Nat} {snap : Bool} {v u : AV} (h : u = ren ρ v) : ArgR σ kp ρ snap v u := by
  subst h; exact .same v

/-- a slice of one's own that is only read from now on -/
theorem Frz.flat {kp : Nat → Prop} {id sz len : Nat} {rows : List (List AV)} (ho : σ.objs[id]? = some (.arr sz rows)) (hw : ∀ row ∈ rows, row.length = sz) (hl : len = rows.length) (hsel : ¬ kp id) (hf : ∀ row ∈ rows, ∀ v ∈ row, (∃ x, v = .lit x) ∨ ∃ s r, v = .tree s r) :
    Frz σ kp (.tree sz rows) (.ref id sz 0 len) := by
  refine .ref id sz 0 len rows rows (fun r c => (cellAt rows r c).getD .undef) ho hsel (by simp [hl]) hw (fun r c v hv => ?_) (fun r c v hv => ?_)
  · simp [hl, hv]
  · rw [hv, Option.getD_some]
    simp only [cellAt, Option.bind_eq_some_iff] at hv
    obtain ⟨row, h1, h2⟩ := hv
    rcases hf row (List.mem_of_getElem? h1) v (List.mem_of_getElem? h2) with ⟨x, rfl⟩ | ⟨s, r, rfl⟩
    · exact .lit x
    · exact .tree s r

theorem ArgR.nil {kp : Nat → Prop} {ρ : Nat → Nat} {sz : Nat} : ArgR σ kp ρ true (.tree sz []) (.lit (.slice none 0 0)) := .snap _ _ rfl (.nil sz)

theorem ArgR.frz {kp : Nat → Prop} {ρ : Nat → Nat} {id sz len : Nat} {rows : List (List AV)} (ho : σ.objs[id]? = some (.arr sz rows)) (hw : ∀ row ∈ rows, row.length = sz) (hl : len = rows.length) (hsel : ¬ kp id) (hf : ∀ row ∈ rows, ∀ v ∈ row, (∃ x, v = .lit x) ∨ ∃ s r, v = .tree s r) :
    ArgR σ kp ρ true (.tree sz rows) (.ref id sz 0 len) := .snap _ _ rfl (Frz.flat ho hw hl hsel hf)

/-- a loop's open end -/
def loopT {α : Type} (n0 : Nat) (S : α → St) (I : α → Prop) (M : α → Nat) (x : α) (Q : Exit → St → Prop) : Exit → St → Prop
  | .normal, s => ∃ y, I y ∧ M y < M x ∧ Turns n0 s (S y)
  | e, s => Q e s

theorem W_loopT {α : Type} {c : Code} (S : α → St) (I : α → Prop) (M : α → Nat) (x0 : α) (hI : I x0) (h0 : Turns n0 σ (S x0)) (round : ∀ x, I x → ∀ Q' : Exit → St → Prop, (∀ s y, I y → M y < M x → Turns n0 s (S y) → Q' .normal s) → (∀ e s, e ≠ .normal → Q e s → Q' e s) → W P N n0 c Q' (S x)) : W P N n0 (.loop c) Q σ := by
  refine W_turn h0 ?_
  -- the rounds, with the turn taken at each head
  intro os γ0 a w hn hok b k cs
  have key : ∀ n x a w, M x = n → I x → Okay N os γ0 (S x) a w →
      ∃ e a' w', (∃ σ', Q e σ' ∧ Okay N os γ0 σ' a' w') ∧ Arrives P (lone (b.at a (.code c :: .inLoop c :: k)) cs w) b k cs e a' w' := by
    intro n
    induction n using Nat.strongRecOn with
    | _ n ih =>
      intro x a w hm hI hok
      have hr : W P N n0 c (loopT n0 S I M x Q) (S x) := round x hI _ (fun s y h1 h2 h3 => ⟨y, h1, h2, h3⟩) (fun e s he h => by cases e <;> first | exact absurd rfl he | exact h)
      obtain ⟨e, a₁, w₁, ⟨σ', hq, hok'⟩, harr⟩ := hr os γ0 a w hn hok b (.inLoop c :: k) cs
      cases e with
      | normal =>
        obtain ⟨y, hIy, hlt, ht⟩ := hq
        obtain ⟨h1, h2, γ, rfl, h3, h4, h5⟩ := hok'
        obtain ⟨γ', e1, e2, e3, e4⟩ := ht os γ0 γ hn h4 h5
        obtain ⟨e₂, a₂, w₂, hq₂, harr₂⟩ := ih (M y) (by omega) y a₁ γ.w rfl hIy ⟨h1, h2, γ', e1, e2.trans h3, e3, e4⟩
        exact ⟨e₂, a₂, w₂, hq₂, .of_steps (Steps.trans harr (.one step_inLoop)) harr₂⟩
      | exit id => exact ⟨_, a₁, w₁, ⟨σ', hq, hok'⟩, .pass (x := .inLoop c) rfl (fun _ _ => .inl (by simp)) harr⟩
      | goto l => exact ⟨_, a₁, w₁, ⟨σ', hq, hok'⟩, .pass (x := .inLoop c) rfl (fun _ _ => .inl (by simp)) harr⟩
      | ret => exact ⟨_, a₁, w₁, ⟨σ', hq, hok'⟩, .pass (x := .inLoop c) rfl (fun _ _ => .inl (by simp)) harr⟩
      | panic ch => exact ⟨_, a₁, w₁, ⟨σ', hq, hok'⟩, .pass (x := .inLoop c) rfl (fun _ _ => .inl (by simp)) harr⟩
      | outgrown => exact ⟨_, a₁, w₁, ⟨σ', hq, hok'⟩, .pass (x := .inLoop c) rfl (fun _ _ => .inl (by simp)) harr⟩
  obtain ⟨e, a', w', hq, harr⟩ := key _ x0 a w rfl hI hok
  exact ⟨e, a', w', hq, .of_steps (.one step_loop) harr⟩

/-- a block whose exits are followed -/
theorem W_block_k {id : Nat} {c : Code} (h : ∀ Q' : Exit → St → Prop, (∀ s, Q .normal s → Q' .normal s) → (∀ s, Q .normal s → Q' (.exit id) s) → (∀ e s, e ≠ .normal → e ≠ .exit id → Q e s → Q' e s) → W P N n0 c Q' σ) : W P N n0 (.block id c) Q σ :=
  W_block (h _ (fun s h => h) (fun s h => by simp only [blockQ, if_true]; exact h) (fun e s h1 h2 h => by
    cases e <;> first
      | exact absurd rfl h1
      | exact h
      | (rename_i id'; simp only [blockQ]; rw [if_neg (fun e => h2 (by rw [e]))]; exact h)))

/-- ways that meet again -/
theorem W_joinT {α : Type} {x y : Code} (S : α → St) (I : α → Prop) (hx : ∀ Q' : Exit → St → Prop, (∀ s z, I z → Turns n0 s (S z) → Q' .normal s) → (∀ e s, e ≠ .normal → Q e s → Q' e s) → W P N n0 x Q' σ)
    (hy : ∀ z, I z → W P N n0 y Q (S z)) : W P N n0 (.seq x y) Q σ :=
  W_seq (hx _ (fun s z hz ht => W_turn ht (hy z hz)) (fun e s he h => by cases e <;> first | exact absurd rfl he | exact h))

theorem renO_noRef {ρ : Nat → Nat} {sz : Nat} {rows : List (List AV)} (h : ∀ row ∈ rows, noRefL row = true) : renO ρ (.arr sz rows) = .arr sz rows := by
  simp only [renO]
  congr 1
  have : ∀ row ∈ rows, row.map (ren ρ) = row := fun row hr => by
    have := renL_noRef ρ row (h row hr)
    rwa [renL_eq] at this
  rw [List.map_congr_left this]
  simp

theorem rho_range (n j : Nat) : rho n (List.range n) j = j := by
  unfold rho
  split
  · rename_i h
    have h' : j < n := by simpa using h
    simp [List.getD_eq_getElem?_getD, List.getElem?_range h']
  · rename_i h
    simp at h ⊢
    omega

mutual
theorem ren_id : ∀ (v : AV), ren (fun j => j) v = v
  | .undef => rfl
  | .lit _ => rfl
  | .tree .. => rfl
  | .taddr _ => rfl
  | .ref .. => rfl
  | .ptr .. => rfl
  | .agg cs => by simp only [ren]; rw [renL_id cs]
  | .tup cs => by simp only [ren]; rw [renL_id cs]
  | .fn f cs => by simp only [ren]; rw [renL_id cs]
  | .bfn f cs => by simp only [ren]; rw [renL_id cs]
  | .ifc t v => by simp only [ren]; rw [ren_id v]
  | .mref _ => rfl
theorem renL_id : ∀ (l : List AV), renL (fun j => j) l = l
  | [] => rfl
  | v :: vs => by simp only [renL]; rw [ren_id v, renL_id vs]
end

theorem renO_id (o : Ob) : renO (fun j => j) o = o := by
  have h : ren (fun j => j) = id := by funext v; exact ren_id v
  cases o with
  | gone => rfl
  | var cs => simp [renO, h]
  | arr sz rows => simp [renO, h]
  | mp ag L => simp [renO, h]

theorem rho_id (n : Nat) : rho n (List.range n) = fun j => j := by funext j; exact rho_range n j

theorem mergeO_range (objs : List Ob) : ∀ (objs' : List Ob), objs.length ≤ objs'.length → mergeO objs (List.range objs.length) objs' = objs' := by
  intro objs' h
  have hlen : (List.range objs.length).length ≤ objs'.length := by simpa using h
  apply List.ext_getElem?
  intro i
  rcases Nat.lt_or_ge i objs.length with hi | hi
  · have := mergeO_sel (List.range objs.length) objs objs' hlen (List.nodup_range) (by simp) i (by simpa using hi)
    simpa [List.getD_eq_getElem?_getD, List.getElem?_range hi] using this
  · have hml := mergeO_length (List.range objs.length) objs objs' hlen
    obtain ⟨j, rfl⟩ : ∃ j, i = objs.length + j := ⟨i - objs.length, by omega⟩
    have := mergeO_new (List.range objs.length) objs objs' hlen j
    simpa using this

/-- a call that is lent all objects -/
theorem callK_all {f : FuncId} {args : List AV} {dst : Option Tmp} {K : St → Prop} {res : AV} {objs' : List Ob} (h : Holds P f args σ.objs res objs') (hl : σ.objs.length ≤ objs'.length) (hK : K ((⟨σ.env, objs'⟩ : St).put dst res)) : callK P f args dst K σ := by
  refine ⟨List.range σ.objs.length, false, args, σ.objs, res, objs', h, ⟨List.nodup_range, by simp, ?_, rfl, ?_, by simp⟩, ?_⟩
  · intro j o hj
    have hlt := (List.getElem?_eq_some_iff.1 hj).1
    rw [rho_id, renO_id]
    simpa [List.getD_eq_getElem?_getD, List.getElem?_range hlt] using hj
  · intro j c d hc hd
    rw [hc] at hd
    simp only [Option.some.injEq] at hd
    subst hd
    exact .eq (by rw [rho_id, ren_id])
  · rw [rho_id, ren_id]
    have : objs'.map (renO (fun j => j)) = objs' := by
      have h : renO (fun j => j) = id := by funext o; exact renO_id o
      simp [h]
    rw [this, mergeO_range _ _ hl]
    exact hK

end Go.Am
end
section
namespace Go.Am
variable {P : Program} {N n0 : Nat} {σ : St} {Q : Exit → St → Prop}

theorem W_region_e {id : Nat} {ops : Array Oper} (hd : dstOK N ops = true) (h : ∀ K : St → Prop, (∀ s, Q .normal s → K s) → opsL P ops ops.toList K σ) : W P N n0 (.region id ops false) Q σ :=
  W_region hd (h _ (fun _ h => h))

theorem planW_seqP {ops : Array Oper} {K : St → Prop} : ∀ (l : List Oper) (i : Nat) (σ : St), ops.toList.drop i = l → opsL P ops l K σ → planW P ops [] (seqP (List.range' i l.length)) K σ
  | [], i, σ, _, h => h
  | o :: r, i, σ, hl, h => by
    have hi : ops[i]? = some o := by
      have : (ops.toList.drop i)[0]? = some o := by rw [hl]; rfl
      simpa using this
    have hr : ops.toList.drop (i + 1) = r := by
      have := congrArg List.tail hl
      simpa [List.tail_drop] using this
    rw [List.length_cons, List.range'_succ]
    show stepAt P ops [] i (planW P ops [] (seqP (List.range' (i + 1) r.length)) K) σ
    unfold stepAt
    simp only [hi]
    have hm : ∀ s, opsL P ops r K s → planW P ops [] (seqP (List.range' (i + 1) r.length)) K s := fun s hs => planW_seqP r (i + 1) s hr hs
    refine stepD_mono hm ?_
    unfold opsL at h
    unfold stepD
    cases hg : o.guard with
    | none => simp only [hg] at h; exact h
    | some jw =>
      obtain ⟨j, want⟩ := jw
      simp only [hg] at h
      exact h

/-- the orders of a region all come to the text's own -/
def inText (ops : Array Oper) : Bool := (seqP (List.range ops.size)).ok ops [] ops.size (Array.replicate ops.size false)

theorem W_draw_o {id : Nat} {ops : Array Oper} {y : Code} (hm : P.follows .mixedOrders = true) (hd : dstOK N ops = true) (ht : inText ops = true) (h : ∀ K : St → Prop, (∀ s, W P N n0 y Q s → K s) → opsL P ops ops.toList K σ) :
    W P N n0 (.seq (.region id ops true) y) Q σ :=
  W_draw_k [] _ hm hd ht fun K hK => by
    have := planW_seqP (P := P) (ops := ops) ops.toList 0 σ rfl (h K hK)
    rw [List.range_eq_range']
    simpa using this

theorem W_draw_oe {id : Nat} {ops : Array Oper} (hm : P.follows .mixedOrders = true) (hd : dstOK N ops = true) (ht : inText ops = true) (h : ∀ K : St → Prop, (∀ s, Q .normal s → K s) → opsL P ops ops.toList K σ) :
    W P N n0 (.region id ops true) Q σ :=
  W_draw [] _ hm hd ht (by
    have := planW_seqP (P := P) (ops := ops) ops.toList 0 σ rfl (h _ (fun _ h => h))
    rw [List.range_eq_range']
    simpa using this)

theorem opsL_go {ops : Array Oper} {o : Oper} {l : List Oper} {K : St → Prop} (h : opsL P ops (o :: l) K σ) : opsL P ops (o :: l) K σ := h
theorem planW_go {ops : Array Oper} {qs : List Nat} {t : PT} {K : St → Prop} (h : planW P ops qs t K σ) : planW P ops qs t K σ := h

theorem RetOK_pure' {v res : AV} (hr : noRef v = true) (h : v = res) : RetOK 0 σ v res [] := by
  subst h; exact RetOK_pure hr

theorem upd_app (e : Nat → AV) (d : Nat) (v : AV) (k : Nat) : upd e d v k = if k = d then v else e k := by simp only [upd]

theorem i64min : IntKind.i64.min = -9223372036854775808 := rfl
theorem i64max : IntKind.i64.max = 9223372036854775807 := rfl

/-! ### encoded lists -/

def ints (xs : List Int) : List (List AV) := xs.map fun x => [.lit (.int .i64 x)]
def bools (xs : List Bool) : List (List AV) := xs.map fun x => [.lit (.bool x)]
def rows1 (xs : List (List (List AV))) : List (List AV) := xs.map fun x => [.tree 1 x]
def intss (xs : List (List Int)) : List (List AV) := xs.map fun x => [.tree 1 (ints x)]

theorem ints_length (xs : List Int) : (ints xs).length = xs.length := by simp [ints]
theorem bools_length (xs : List Bool) : (bools xs).length = xs.length := by simp [bools]
theorem intss_length (xs : List (List Int)) : (intss xs).length = xs.length := by simp [intss]
theorem ints_getD (xs : List Int) (i : Nat) (h : i < xs.length) : (ints xs).getD i [] = [.lit (.int .i64 (xs.getD i 0))] := by simp [ints, h]
theorem bools_getD (xs : List Bool) (i : Nat) (h : i < xs.length) : (bools xs).getD i [] = [.lit (.bool (xs.getD i false))] := by simp [bools, h]
theorem intss_getD (xs : List (List Int)) (i : Nat) (h : i < xs.length) : (intss xs).getD i [] = [.tree 1 (ints (xs.getD i []))] := by simp [intss, h]
theorem ints_get (xs : List Int) (i : Nat) (h : i < xs.length) : (ints xs)[i]? = some [.lit (.int .i64 (xs.getD i 0))] := by simp [ints, h]
theorem bools_get (xs : List Bool) (i : Nat) (h : i < xs.length) : (bools xs)[i]? = some [.lit (.bool (xs.getD i false))] := by simp [bools, h]
theorem intss_get (xs : List (List Int)) (i : Nat) (h : i < xs.length) : (intss xs)[i]? = some [.tree 1 (ints (xs.getD i []))] := by simp [intss, h]
theorem ints_set (xs : List Int) (i : Nat) (v : Int) : (ints xs).set i [.lit (.int .i64 v)] = ints (xs.set i v) := by simp [ints, List.map_set]
theorem bools_set (xs : List Bool) (i : Nat) (v : Bool) : (bools xs).set i [.lit (.bool v)] = bools (xs.set i v) := by simp [bools, List.map_set]
theorem ints_app (xs ys : List Int) : ints xs ++ ints ys = ints (xs ++ ys) := by simp [ints]
theorem ints_app1 (xs : List Int) (v : Int) : ints xs ++ [[.lit (.int .i64 v)]] = ints (xs ++ [v]) := by simp [ints]
theorem ints_app0 (v : Int) : [[AV.lit (.int .i64 v)]] = ints [v] := rfl
theorem intss_app1 (xs : List (List Int)) (v : List Int) : intss xs ++ [[.tree 1 (ints v)]] = intss (xs ++ [v]) := by simp [intss]
theorem bools_app1 (xs : List Bool) (v : Bool) : bools xs ++ [[.lit (.bool v)]] = bools (xs ++ [v]) := by simp [bools]
theorem ints_rep (n : Nat) (v : Int) : List.replicate n [AV.lit (.int .i64 v)] = ints (List.replicate n v) := by simp [ints]
theorem bools_rep (n : Nat) (v : Bool) : List.replicate n [AV.lit (.bool v)] = bools (List.replicate n v) := by simp [bools]
theorem ints_scal (xs : List Int) : ((ints xs).all fun row => row.all scal) = true := by simp [ints, scal, Value.oneCell']
theorem bools_scal (xs : List Bool) : ((bools xs).all fun row => row.all scal) = true := by simp [bools, scal, Value.oneCell']
theorem intss_scal (xs : List (List Int)) : ((intss xs).all fun row => row.all scal) = true := by simp [intss, scal]
theorem ints_ren (ρ : Nat → Nat) (sz : Nat) (xs : List Int) : renO ρ (.arr sz (ints xs)) = .arr sz (ints xs) := renO_noRef (by simp [ints, noRefL, noRef])
theorem bools_ren (ρ : Nat → Nat) (sz : Nat) (xs : List Bool) : renO ρ (.arr sz (bools xs)) = .arr sz (bools xs) := renO_noRef (by
  intro row hr
  simp only [bools, List.mem_map] at hr
  obtain ⟨x, _, rfl⟩ := hr
  rfl)
theorem intss_ren (ρ : Nat → Nat) (sz : Nat) (xs : List (List Int)) : renO ρ (.arr sz (intss xs)) = .arr sz (intss xs) := renO_noRef (by simp [intss, noRefL, noRef])
theorem ints_frz (xs : List Int) : ∀ row ∈ ints xs, ∀ v ∈ row, (∃ x, v = AV.lit x) ∨ ∃ s r, v = AV.tree s r := by
  intro row hr v hv
  simp only [ints, List.mem_map] at hr
  obtain ⟨x, _, rfl⟩ := hr
  simp at hv
  exact .inl ⟨_, hv⟩
theorem bools_frz (xs : List Bool) : ∀ row ∈ bools xs, ∀ v ∈ row, (∃ x, v = AV.lit x) ∨ ∃ s r, v = AV.tree s r := by
  intro row hr v hv
  simp only [bools, List.mem_map] at hr
  obtain ⟨x, _, rfl⟩ := hr
  simp at hv
  exact .inl ⟨_, hv⟩
theorem intss_frz (xs : List (List Int)) : ∀ row ∈ intss xs, ∀ v ∈ row, (∃ x, v = AV.lit x) ∨ ∃ s r, v = AV.tree s r := by
  intro row hr v hv
  simp only [intss, List.mem_map] at hr
  obtain ⟨x, _, rfl⟩ := hr
  simp at hv
  exact .inr ⟨_, _, hv⟩
theorem ints_wid (xs : List Int) : ∀ row ∈ ints xs, row.length = 1 := by
  intro row hr; simp only [ints, List.mem_map] at hr; obtain ⟨x, _, rfl⟩ := hr; rfl
theorem bools_wid (xs : List Bool) : ∀ row ∈ bools xs, row.length = 1 := by
  intro row hr; simp only [bools, List.mem_map] at hr; obtain ⟨x, _, rfl⟩ := hr; rfl
theorem intss_wid (xs : List (List Int)) : ∀ row ∈ intss xs, row.length = 1 := by
  intro row hr; simp only [intss, List.mem_map] at hr; obtain ⟨x, _, rfl⟩ := hr; rfl
theorem getD_set_self {α : Type} (xs : List α) (i : Nat) (v d : α) (h : i < xs.length) : (xs.set i v).getD i d = v := by simp [h]
theorem getD_drop0 {α : Type} (xs : List α) (i : Nat) (d : α) (h : i < xs.length) : xs.drop i = xs.getD i d :: xs.drop (i + 1) := by
  rw [List.drop_eq_getElem_cons h]; simp [h]

end Go.Am
end
section
namespace Go.Am
variable {P : Program} {dst : Option Tmp} {tt : TypeId} {p : String} {af : Array Edge} {g : Option (Nat × Bool)} {σ : St} {K : St → Prop}

def liveO : Option Ob → Prop
  | some (.var _) => True
  | some (.arr _ _) => True
  | some (.mp _ _) => True
  | _ => False
theorem liveO_mp (a : Nat) (L : List (List Int × AV)) : liveO (some (.mp a L)) = True := by simp only [liveO]
theorem liveO_var (c : List AV) : liveO (some (.var c)) = True := by simp only [liveO]
theorem liveO_arr (s : Nat) (c : List (List AV)) : liveO (some (.arr s c)) = True := by simp only [liveO]

def nilK (σ : St) (dst : Option Tmp) (K : St → Prop) : AV → Prop
  | .ptr id r c => liveO σ.objs[id]? ∧ K (σ.put dst (.ptr id r c))
  | .taddr cells => K (σ.put dst (.taddr cells))
  | _ => False

theorem opG_nilCheck (x : Operand) : opG P ⟨dst, .nilCheck x, tt, p, af, g⟩ σ K = nilK σ dst K (ev σ x) := by
  simp only [opG, opW]
  cases ev σ x <;> simp only [nilK]
  rename_i id r c
  cases h : σ.objs[id]? with
  | none => simp [liveO]
  | some o => cases o <;> simp [liveO]

def faK (σ : St) (dst : Option Tmp) (K : St → Prop) (off : Nat) : AV → Prop
  | .ptr id r c => liveO σ.objs[id]? ∧ K (σ.put dst (.ptr id r (c + off)))
  | .taddr cells => K (σ.put dst (.taddr (cells.drop off)))
  | _ => False

def faT (σ : St) (dst : Option Tmp) (K : St → Prop) (v : AV) (kind : Nat) : Option (Nat × Nat × Nat) → Prop
  | some (off, _, size) => kind = 3 ∧ 0 < size ∧ faK σ dst K off v
  | none => False

theorem opG_fieldAddr (s : TypeId) (x : Operand) (f : Nat) : opG P ⟨dst, .fieldAddr s x f, tt, p, af, g⟩ σ K = faT σ dst K (ev σ x) (ty P s).kind (ty P s).flds[f]? := by
  simp only [opG, opW]
  split
  · rename_i off ft size hk hf
    rw [hk, hf]
    simp only [faT, true_and]
    cases ev σ x <;> simp only [faK]
    rename_i id r c
    cases h : σ.objs[id]? with
    | none => simp [liveO]
    | some o => cases o <;> simp [liveO]
  · rename_i hne
    cases hf : (ty P s).flds[f]? with
    | none => simp [faT]
    | some q =>
      obtain ⟨off, ft, size⟩ := q
      simp only [faT]
      have : (ty P s).kind ≠ 3 := fun e => hne off ft size e hf
      simp [this]

def iaA (t : Ty) (e : Ty) (σ : St) (dst : Option Tmp) (K : St → Prop) : AV → AV → Prop
  | .ref id sz off len, .lit (.int _ n) =>
    t.kind = 1 ∧
    match σ.objs[id]? with
    | some (.arr sz' _) => (sz' = sz ∧ sz = e.size ∧ e.kind ≠ 99 ∧ 0 ≤ n ∧ n < len) ∧ K (σ.put dst (.ptr id (off + n.toNat) 0))
    | _ => False
  | .tree sz rows, .lit (.int _ n) => t.kind = 1 ∧ (sz = e.size ∧ e.kind ≠ 99 ∧ 0 ≤ n ∧ n < rows.length) ∧ K (σ.put dst (.taddr (rows.getD n.toNat [])))
  | .ptr id r c, .lit (.int _ n) => t.kind = 2 ∧ liveO σ.objs[id]? ∧ (e.kind ≠ 99 ∧ 0 ≤ n ∧ n < t.len) ∧ K (σ.put dst (.ptr id r (c + n.toNat * e.size)))
  | .taddr cells, .lit (.int _ n) => t.kind = 2 ∧ (e.kind ≠ 99 ∧ 0 ≤ n ∧ n < t.len) ∧ K (σ.put dst (.taddr (cells.drop (n.toNat * e.size))))
  | _, _ => False

theorem opG_indexAddr (t : TypeId) (x i : Operand) : opG P ⟨dst, .indexAddr t x i, tt, p, af, g⟩ σ K = iaA (ty P t) (ty P (ty P t).elem) σ dst K (ev σ x) (ev σ i) := by
  simp only [opG, opW]
  split
  · rename_i id sz off len k n hk hx hi
    rw [hx, hi]; simp only [iaA, hk, true_and]
    cases σ.objs[id]? with
    | none => rfl
    | some o => cases o <;> rfl
  · rename_i sz rows k n hk hx hi
    rw [hx, hi]; simp only [iaA, hk, true_and]
  · rename_i id r c k n hk hx hi
    rw [hx, hi]; simp only [iaA, hk, true_and]
    cases h : σ.objs[id]? with
    | none => simp [liveO]
    | some o => cases o <;> simp [liveO]
  · rename_i cells k n hk hx hi
    rw [hx, hi]; simp only [iaA, hk, true_and]
  · rename_i h1 h2 h3 h4
    unfold iaA
    split
    · rename_i id sz off len k n hx hi
      simp only [eq_iff_iff, false_iff]
      rintro ⟨hk, _⟩
      exact h1 id sz off len k n hk hx hi
    · rename_i sz rows k n hx hi
      simp only [eq_iff_iff, false_iff]
      rintro ⟨hk, _⟩
      exact h2 sz rows k n hk hx hi
    · rename_i id r c k n hx hi
      simp only [eq_iff_iff, false_iff]
      rintro ⟨hk, _⟩
      exact h3 id r c k n hk hx hi
    · rename_i cells k n hx hi
      simp only [eq_iff_iff, false_iff]
      rintro ⟨hk, _⟩
      exact h4 cells k n hk hx hi
    · rfl

def callV (P : Program) (dst : Option Tmp) (args : List AV) (K : St → Prop) (σ : St) : AV → Prop
  | .fn g caps => callK P g (args ++ caps) dst K σ
  | _ => False

theorem opG_call (f : Operand) (args : Array Operand) (ats : Array TypeId) : opG P ⟨dst, .call ⟨.value f, args, ats⟩, tt, p, af, g⟩ σ K = callV P dst (args.toList.map (ev σ)) K σ (ev σ f) := by
  simp only [opG]
  cases ev σ f <;> rfl

def invV (P : Program) (dst : Option Tmp) (args : List AV) (K : St → Prop) (σ : St) (m : String) : AV → Prop
  | .ifc t v => recvK P σ v (fun g x => callK P g (x :: args) dst K σ) (methT P t m)
  | _ => False

theorem opG_invoke (r : Operand) (m : String) (args : Array Operand) (ats : Array TypeId) : opG P ⟨dst, .call ⟨.invoke r m, args, ats⟩, tt, p, af, g⟩ σ K = invV P dst (args.toList.map (ev σ)) K σ m (ev σ r) := by
  simp only [opG]
  cases ev σ r <;> rfl

def callVQ (P : Program) (dst : Option Tmp) (args : List AV) (K : St → Prop) (σ : St) : AV → Prop
  | .fn g caps => callQ P g (args ++ caps) dst K σ
  | _ => False

theorem opGm_call (f : Operand) (args : Array Operand) (ats : Array TypeId) : opGm true P ⟨dst, .call ⟨.value f, args, ats⟩, tt, p, af, g⟩ σ K = callVQ P dst (args.toList.map (ev σ)) K σ (ev σ f) := by
  simp only [opGm]
  cases ev σ f <;> rfl

def evP (σ : St) : List (Nat × Operand) → List (Nat × AV)
  | [] => []
  | q :: l => (q.1, ev σ q.2) :: evP σ l
def scalP (σ : St) : List (Nat × Operand) → Bool
  | [] => true
  | q :: l => (cellsOf (ev σ q.2)).all scal && scalP σ l
theorem evP_eq (σ : St) (l : List (Nat × Operand)) : evP σ l = l.map fun q => (q.1, ev σ q.2) := by
  induction l with
  | nil => rfl
  | cons q l ih => simp only [evP, ih, List.map_cons]
theorem scalP_eq (σ : St) (l : List (Nat × Operand)) : scalP σ l = l.all fun q => (cellsOf (ev σ q.2)).all scal := by
  induction l with
  | nil => rfl
  | cons q l ih => simp only [scalP, ih, List.all_cons]

theorem opGm_no (o : Oper) : opGm false P o σ K = opG P o σ K := by simp only [opGm]

theorem opG_move (x : Operand) : opG P ⟨dst, .move x, tt, p, af, g⟩ σ K =
    (K (σ.put dst (ev σ x))) := by unfold opG opW; rfl

theorem opG_assign (x : Operand) : opG P ⟨dst, .assign x, tt, p, af, g⟩ σ K =
    (K (σ.put dst (ev σ x))) := by unfold opG opW; rfl

theorem opG_pick (c a b : Operand) : opG P ⟨dst, .pick c a b, tt, p, af, g⟩ σ K =
    (match ev σ c with
      | .lit (.bool t) => K (σ.put dst (pickV t (ev σ a) (ev σ b)))
      | _ => False) := by unfold opG opW; rfl

theorem opG_alloc (e : TypeId) : opG P ⟨dst, .alloc e, tt, p, af, g⟩ σ K =
    ((ty P e).kind ≠ 99 ∧
      match (ty P e).zero with
      | some z => K (({ σ with objs := σ.objs ++ [.var (z.map .lit)] } : St).put dst (.ptr σ.objs.length 0 0))
      | none => False) := by unfold opG opW; rfl

theorem opG_box (e : TypeId) (x : Operand) : opG P ⟨dst, .box e x, tt, p, af, g⟩ σ K =
    ((cellsOf (ev σ x)).all scal = true ∧ K (({ σ with objs := σ.objs ++ [.var (cellsOf (ev σ x))] } : St).put dst (.ptr σ.objs.length 0 0))) := by unfold opG opW; rfl

theorem opG_build (t : TypeId) (parts : Array (Nat × Operand)) : opG P ⟨dst, .build t parts, tt, p, af, g⟩ σ K =
    (match (ty P t).kind, (ty P t).zero with
      | 3, some z =>
        match fillA (fun i => ((ty P t).flds[i]?).map fun f => (f.1, f.2.2)) (z.map .lit) (evP σ parts.toList) with
        | some cs => (scalP σ parts.toList = true ∧ ((ty P t).flds.all fun f => decide (0 < f.2.2)) = true) ∧ K (σ.put dst (.agg cs))
        | none => False
      | 2, some z =>
        match fillA (fun i => some (i * (ty P (ty P t).elem).size, (ty P (ty P t).elem).size)) (z.map .lit) (evP σ parts.toList) with
        | some cs => (scalP σ parts.toList = true ∧ (ty P (ty P t).elem).kind ≠ 99) ∧ K (σ.put dst (.agg cs))
        | none => False
      | _, _ => False) := by rw [evP_eq, scalP_eq]; unfold opG opW; rfl

theorem opG_buildSlice (t : TypeId) (len : Nat) (parts : Array (Nat × Operand)) : opG P ⟨dst, .buildSlice t len parts, tt, p, af, g⟩ σ K =
    (match (ty P t).kind, (ty P (ty P t).elem).zero with
      | 1, some z =>
        match fillA (fun i => some (i * (ty P (ty P t).elem).size, (ty P (ty P t).elem).size)) ((List.range len).flatMap fun _ => z.map .lit) (evP σ parts.toList) with
        | some cs => ((ty P (ty P t).elem).kind ≠ 99 ∧ 0 < (ty P (ty P t).elem).size ∧ z.length = (ty P (ty P t).elem).size ∧ len * (ty P (ty P t).elem).size ≤ 16777216 ∧ scalP σ parts.toList = true) ∧
            K (({ σ with objs := σ.objs ++ [.arr (ty P (ty P t).elem).size (toRows (ty P (ty P t).elem).size len cs)] } : St).put dst (.ref σ.objs.length (ty P (ty P t).elem).size 0 len))
        | none => False
      | _, _ => False) := by rw [evP_eq, scalP_eq]; unfold opG opW; rfl

theorem opG_load (t : TypeId) (a : Operand) : opG P ⟨dst, .load t a, tt, p, af, g⟩ σ K =
    ((ty P t).kind ≠ 99 ∧
      match ev σ a with
      | .ptr id r c =>
        match rowOf σ id r with
        | some row => loadA (ty P t) row c fun v => K (σ.put dst v)
        | none => False
      | .taddr cells => loadA (ty P t) cells 0 fun v => K (σ.put dst v)
      | _ => False) := by unfold opG opW; rfl

theorem opG_store (t : TypeId) (a x : Operand) : opG P ⟨dst, .store t a x, tt, p, af, g⟩ σ K =
    ((ty P t).kind ≠ 99 ∧
      match ev σ a with
      | .ptr id r c =>
        match rowOf σ id r with
        | some row => ((cellsOf (ev σ x)).length = (ty P t).size ∧ c + (ty P t).size ≤ row.length ∧ (cellsOf (ev σ x)).all scal = true) ∧ K ((setRowOf σ id r (setCells row c (cellsOf (ev σ x)))).put dst .undef)
        | none => False
      | _ => False) := by unfold opG opW; rfl

theorem opG_binOp (op : BinOp) (t : TypeId) (x y : Operand) (yt : TypeId) : opG P ⟨dst, .binOp op t x y yt, tt, p, af, g⟩ σ K =
    (match ev σ x, ev σ y with
      | .lit (.int k a), .lit (.int k' b) => k = k' ∧ intW op k a b fun v => K (σ.put dst (.lit v))
      | .lit (.bool a), .lit (.bool b) =>
        (ty P t).kind = 6 ∧
        match op with
        | .eql => K (σ.put dst (.lit (.bool (a == b))))
        | .neq => K (σ.put dst (.lit (.bool (a != b))))
        | _ => False
      | .tree _ rows, .lit (.slice none 0 0) =>
        ((ty P t).kind = 1 ∧ 0 < rows.length) ∧
        match op with
        | .eql => K (σ.put dst (.lit (.bool false)))
        | .neq => K (σ.put dst (.lit (.bool true)))
        | _ => False
      | .lit (.slice a _ _), .lit (.slice none 0 0) =>
        (ty P t).kind = 1 ∧
        match op with
        | .eql => K (σ.put dst (.lit (.bool a.isNone)))
        | .neq => K (σ.put dst (.lit (.bool (!a.isNone))))
        | _ => False
      | .agg cs, .agg ds =>
        match intsOf cs, intsOf ds with
        | some as, some bs =>
          (EqT P t as.length ∧ bs.length = as.length ∧ P.eqGuardType P.depth t = false) ∧
          match op with
          | .eql => K (σ.put dst (.lit (.bool (decide (as = bs)))))
          | .neq => K (σ.put dst (.lit (.bool (!decide (as = bs)))))
          | _ => False
        | _, _ => False
      | _, _ => False) := by unfold opG opW; rfl

theorem opG_unOp (op : UnOp) (t : TypeId) (x : Operand) : opG P ⟨dst, .unOp op t x, tt, p, af, g⟩ σ K =
    (match op, ev σ x with
      | .not, .lit (.bool b) => K (σ.put dst (.lit (.bool !b)))
      | .neg, .lit (.int k a) => negW k a fun v => K (σ.put dst (.lit v))
      | _, _ => False) := by unfold opG opW; rfl

theorem opG_makeFunc (fn : Fn) (first captured : Array Operand) : opG P ⟨dst, .makeFunc fn first captured, tt, p, af, g⟩ σ K =
    (match fn with
      | .func f => first.size = 0 ∧ K (σ.put dst (.fn f (captured.toList.map (ev σ))))
      | _ => False) := by unfold opG opW; rfl

theorem opG_makeSlice (t : TypeId) (l c : Operand) : opG P ⟨dst, .makeSlice t l c, tt, p, af, g⟩ σ K =
    (match (ty P t).kind, (ty P (ty P t).elem).zero, ev σ l, ev σ c with
      | 1, some z, .lit (.int k n), .lit (.int k' n') =>
        ((ty P (ty P t).elem).kind ≠ 99 ∧ 0 < (ty P (ty P t).elem).size ∧ z.length = (ty P (ty P t).elem).size ∧ n' = n ∧ 0 ≤ n ∧ n ≤ 1099511627776 ∧ (ty P (ty P t).elem).bytes ≤ 128 ∧ k = k) ∧
          K (({ σ with objs := σ.objs ++ [.arr (ty P (ty P t).elem).size (List.replicate n.toNat (z.map .lit))] } : St).put dst (.ref σ.objs.length (ty P (ty P t).elem).size 0 n.toNat)) ∧ k' = k'
      | _, _, _, _ => False) := by unfold opG opW; rfl

theorem opG_slice (t : TypeId) (x : Operand) (lo hi mx : Option Operand) : opG P ⟨dst, .slice t x lo hi mx, tt, p, af, g⟩ σ K =
    ((ty P t).kind = 1 ∧ (ty P (ty P t).elem).kind ≠ 99 ∧ mx = none ∧
      match ev σ x with
      | .ref id sz off len =>
        match σ.objs[id]? with
        | some (.arr sz' rows) =>
          sz' = sz ∧ sz = (ty P (ty P t).elem).size ∧
          match lo.map (ev σ), hi.map (ev σ) with
          | none, none => K (σ.put dst (.ref id sz off len))
          | some (.lit (.int _ l)), none => (0 ≤ l ∧ l ≤ len ∧ rows.length = rows.length) ∧ K (σ.put dst (.ref id sz (off + l.toNat) (len - l.toNat)))
          | none, some (.lit (.int _ h)) => (0 ≤ h ∧ h ≤ len) ∧ K (σ.put dst (.ref id sz off h.toNat))
          | some (.lit (.int _ l)), some (.lit (.int _ h)) => (0 ≤ l ∧ l ≤ h ∧ h ≤ len) ∧ K (σ.put dst (.ref id sz (off + l.toNat) (h.toNat - l.toNat)))
          | _, _ => False
        | _ => False
      | .tree sz rows =>
          (rows ≠ [] → sz = (ty P (ty P t).elem).size) ∧
          match lo.map (ev σ), hi.map (ev σ) with
          | none, none => K (σ.put dst (.tree sz rows))
          | some (.lit (.int _ l)), none => (0 ≤ l ∧ l ≤ rows.length) ∧ K (σ.put dst (.tree sz (rows.drop l.toNat)))
          | none, some (.lit (.int _ h)) => (0 ≤ h ∧ h ≤ rows.length) ∧ K (σ.put dst (.tree sz (rows.take h.toNat)))
          | some (.lit (.int _ l)), some (.lit (.int _ h)) => (0 ≤ l ∧ l ≤ h ∧ h ≤ rows.length) ∧ K (σ.put dst (.tree sz ((rows.take h.toNat).drop l.toNat)))
          | _, _ => False
      | _ => False) := by unfold opG opW; rfl

theorem opG_field (s : TypeId) (x : Operand) (f : Nat) : opG P ⟨dst, .field s x f, tt, p, af, g⟩ σ K =
    (match (ty P s).kind, (ty P s).flds[f]? with
      | 3, some (off, t, size) =>
        (ty P t).kind ≠ 99 ∧ size = (ty P t).size ∧
        match ev σ x with
        | .agg cs => if (ty P t).isAgg then off + size ≤ cs.length ∧ K (σ.put dst (.agg ((cs.drop off).take size))) else
            match cs[off]? with
            | some v => K (σ.put dst v)
            | none => False
        | _ => False
      | _, _ => False) := by unfold opG opW; rfl

theorem opG_makeMap (t : TypeId) (r : Option Operand) : opG P ⟨dst, .makeMap t r, tt, p, af, g⟩ σ K =
    ((r = none ∧ (ty P t).kind = 8) ∧ K (({ σ with objs := σ.objs ++ [.mp (kAg P t) []] } : St).put dst (.mref σ.objs.length))) := by unfold opG opW; rfl

theorem opG_lookup (t : TypeId) (x i : Operand) (ok : Bool) : opG P ⟨dst, .lookup t x i ok, tt, p, af, g⟩ σ K =
    (match keyOf (ev σ i), mpOf σ (ev σ x), zeroV P (ty P t).elem with
      | some (ag, l), some (_, ag', L), some z => (KeyM P t ag ∧ ag' = ag ∧ l.length = kLen ag ∧ (ty P t).kind = 8 ∧ ok = false) ∧ K (σ.put dst ((getA l L).getD (.lit z)))
      | _, _, _ => False) := by unfold opG opW; rfl

theorem opG_mapUpdate (t : TypeId) (m k x : Operand) : opG P ⟨dst, .mapUpdate t m k x, tt, p, af, g⟩ σ K =
    (match keyOf (ev σ k), mpOf σ (ev σ m) with
      | some (ag, l), some (id, ag', L) => (KeyM P t ag ∧ ag' = ag ∧ l.length = kLen ag) ∧ K (({ σ with objs := σ.objs.set id (.mp ag (setA l (ev σ x) L)) } : St).put dst .undef)
      | _, _ => False) := by unfold opG opW; rfl

theorem opG_mapEntry (t : TypeId) (m k : Operand) : opG P ⟨dst, .mapEntry t m k, tt, p, af, g⟩ σ K =
    (match keyOf (ev σ k), mpOf σ (ev σ m), zeroV P (ty P t).elem with
      | some (ag, l), some (id, ag', L), some z => (KeyM P t ag ∧ ag' = ag ∧ l.length = kLen ag ∧ (ty P t).kind = 8) ∧
        K (({ σ with objs := σ.objs.set id (.mp ag (setA l ((getA l L).getD (.lit z)) L)) } : St).put dst (.tup [(getA l L).getD (.lit z), .lit (.int .i64 (idxA l L : Nat))]))
      | _, _, _ => False) := by unfold opG opW; rfl

theorem opG_entryStore (t : TypeId) (m s x : Operand) : opG P ⟨dst, .entryStore t m s x, tt, p, af, g⟩ σ K =
    (match ev σ s, mpOf σ (ev σ m) with
      | .lit (.int .i64 n), some (id, ag, L) => (0 ≤ n ∧ n < L.length) ∧ K (({ σ with objs := σ.objs.set id (.mp ag (putA n.toNat (ev σ x) L)) } : St).put dst .undef)
      | _, _ => False) := by unfold opG opW; rfl

theorem opG_index (t : TypeId) (x i : Operand) : opG P ⟨dst, .index t x i, tt, p, af, g⟩ σ K =
    (match ev σ x, ev σ i with
      | .lit (.string s), .lit (.int _ n) => (P.underlying t = some .string ∧ 0 ≤ n ∧ n < s.size) ∧ K (σ.put dst (.lit (.int .u8 (strB s n.toNat))))
      | _, _ => False) := by unfold opG opW; rfl

theorem opG_makeInterface (t : TypeId) (x : Operand) : opG P ⟨dst, .makeInterface t x, tt, p, af, g⟩ σ K =
    (ifaceB P t = false ∧ K (σ.put dst (.ifc t (ev σ x)))) := by unfold opG opW; rfl

theorem opG_typeAssert (x : Operand) (xt asserted : TypeId) (ok : Bool) : opG P ⟨dst, .typeAssert x xt asserted ok, tt, p, af, g⟩ σ K =
    (match ev σ x with
      | .ifc t v => (ifaceB P asserted = false ∧ t = asserted ∧ ok = false) ∧ K (σ.put dst v)
      | _ => False) := by unfold opG opW; rfl

theorem opG_extract (x : Operand) (i : Nat) : opG P ⟨dst, .extract x i, tt, p, af, g⟩ σ K =
    (match ev σ x with
      | .tup vs =>
        match vs[i]? with
        | some v => K (σ.put dst v)
        | none => False
      | _ => False) := by unfold opG opW; rfl

theorem opG_b_len (args : Array Operand) (argTypes : Array TypeId) : opG P ⟨dst, .call ⟨.builtin .len, args, argTypes⟩, tt, p, af, g⟩ σ K =
    (match args.toList, argTypes.toList with
      | [x], [t] =>
        match ev σ x with
        | .ref id sz _ len =>
          (ty P t).kind = 1 ∧
          match σ.objs[id]? with
          | some (.arr sz' _) => sz' = sz ∧ K (σ.put dst (.lit (.int .i64 len)))
          | _ => False
        | .tree _ rows => (ty P t).kind = 1 ∧ K (σ.put dst (.lit (.int .i64 rows.length)))
        | .lit (.slice none 0 0) => (ty P t).kind = 1 ∧ K (σ.put dst (.lit (.int .i64 0)))
        | .mref id =>
          (ty P t).kind = 8 ∧
          match σ.objs[id]? with
          | some (.mp _ L) => K (σ.put dst (.lit (.int .i64 L.length)))
          | _ => False
        | _ => False
      | _, _ => False) := by unfold opG opW; rfl

theorem opG_b_append (args : Array Operand) (argTypes : Array TypeId) : opG P ⟨dst, .call ⟨.builtin .append, args, argTypes⟩, tt, p, af, g⟩ σ K =
    (match args.toList, argTypes.toList with
      | [s, x], [t, t'] =>
        match (ty P t).kind, (ty P (ty P t).elem).zero, dstRows σ (ty P (ty P t).elem).size (ev σ s), srcRows σ (ev σ x) with
        | 1, some z, some (pre, σ1), some (sz, src) =>
          (t' = t ∧ (ty P (ty P t).elem).kind ≠ 99 ∧ sz = (ty P (ty P t).elem).size ∧ 0 < sz ∧ z.length = sz ∧ pre.length + src.length ≤ 549755813888 ∧ (ty P (ty P t).elem).bytes ≤ 128 ∧ (src.all fun row => row.all scal) = true) ∧
            K (({ σ1 with objs := σ1.objs ++ [.arr sz (pre ++ src)] } : St).put dst (.ref σ1.objs.length sz 0 (pre.length + src.length)))
        | _, _, _, _ => False
      | _, _ => False) := by unfold opG opW; rfl

theorem opG_b_min (args : Array Operand) (argTypes : Array TypeId) : opG P ⟨dst, .call ⟨.builtin .min, args, argTypes⟩, tt, p, af, g⟩ σ K =
    (match args.toList with
      | [x, y] =>
        match ev σ x, ev σ y with
        | .lit (.int k a), .lit (.int k' b) => k = k' ∧ K (σ.put dst (.lit (.int k (min a b))))
        | _, _ => False
      | _ => False) := by unfold opG opW; rfl

theorem opG_b_max (args : Array Operand) (argTypes : Array TypeId) : opG P ⟨dst, .call ⟨.builtin .max, args, argTypes⟩, tt, p, af, g⟩ σ K =
    (match args.toList with
      | [x, y] =>
        match ev σ x, ev σ y with
        | .lit (.int k a), .lit (.int k' b) => k = k' ∧ K (σ.put dst (.lit (.int k (max a b))))
        | _, _ => False
      | _ => False) := by unfold opG opW; rfl

theorem opG_b_copy (args : Array Operand) (argTypes : Array TypeId) : opG P ⟨dst, .call ⟨.builtin .copy, args, argTypes⟩, tt, p, af, g⟩ σ K =
    (match args.toList, argTypes.toList with
      | [s, x], [t, _] =>
        match ev σ s, srcRows σ (ev σ x) with
        | .ref id sz off len, some (sz', src) =>
          match σ.objs[id]? with
          | some (.arr sz'' rows) =>
            ((ty P t).kind = 1 ∧ (ty P (ty P t).elem).kind ≠ 99 ∧ sz' = sz ∧ sz'' = sz ∧ sz = (ty P (ty P t).elem).size ∧ 0 < sz ∧ (src.all fun row => row.all scal) = true) ∧
              K (({ σ with objs := σ.objs.set id (.arr sz (rows.take off ++ src.take (min src.length len) ++ rows.drop (off + min src.length len))) } : St).put dst (.lit (.int .i64 (min src.length len : Nat))))
          | _ => False
        | _, _ => False
      | _, _ => False) := by unfold opG opW; rfl

theorem opG_b_clear (args : Array Operand) (argTypes : Array TypeId) : opG P ⟨dst, .call ⟨.builtin .clear, args, argTypes⟩, tt, p, af, g⟩ σ K =
    (match args.toList, argTypes.toList with
      | [s], [t] =>
        match ev σ s, (ty P (ty P t).elem).zero with
        | .ref id sz off len, some z =>
          match σ.objs[id]? with
          | some (.arr sz' rows) =>
            ((ty P t).kind = 1 ∧ (ty P (ty P t).elem).kind ≠ 99 ∧ sz' = sz ∧ z.length = sz ∧ 0 < sz ∧ (z.all fun u => u.oneCell') = true) ∧
              K (({ σ with objs := σ.objs.set id (.arr sz (rows.take off ++ List.replicate len (z.map AV.lit) ++ rows.drop (off + len))) } : St).put dst (.lit (.tuple #[])))
          | _ => False
        | _, _ => False
      | _, _ => False) := by unfold opG opW; rfl

theorem opG_convert (s d : TypeId) (x : Operand) : opG P ⟨dst, .convert s d x, tt, p, af, g⟩ σ K =
    (match P.underlying d, ev σ x with
      | some (.int k), .lit (.int _ n) => (P.underlying s).isSome = true ∧ K (σ.put dst (.lit (.int k (k.wrap n))))
      | _, _ => False) := by unfold opG opW; rfl

end Go.Am
end
section
namespace Go.Am
variable {P : Program} {N n0 : Nat} {σ : St} {Q : Exit → St → Prop}

theorem RetOK_sel (sel : List Nat) (snap : Bool) {v res : AV} {objs' : List Ob} (hnd : sel.Nodup) (ho : SelO (rho σ.objs.length sel) σ.objs sel objs') (hn : n0 ≤ sel.length) (hid : ∀ i, i < n0 → sel.getD i 0 = i)
    (h : ArgR σ (kept sel objs') (rho σ.objs.length sel) snap res v) : RetOK n0 σ v res objs' := by
  obtain ⟨h1, h2, h3⟩ := ho.spec
  exact ⟨sel, snap, hnd, h1, h2, h3, hn, hid, h⟩

theorem RetOK_all {e : Nat → AV} {os : List Ob} {v res : AV} {objs' : List Ob} (ho : os = objs') (hn : n0 ≤ objs'.length) (h : v = res) : RetOK n0 ⟨e, os⟩ v res objs' := by
  subst ho; subst h
  let σ : St := ⟨e, os⟩
  show RetOK n0 σ v v σ.objs
  have hn : n0 ≤ σ.objs.length := hn
  refine ⟨List.range σ.objs.length, false, List.nodup_range, by simp, fun j o hj => .inr ?_, by simp, by simpa using hn, fun i hi => ?_, ?_⟩
  · have hlt := (List.getElem?_eq_some_iff.1 hj).1
    rw [rho_id, renO_id]
    simpa [List.getD_eq_getElem?_getD, List.getElem?_range hlt] using hj
  · have : i < σ.objs.length := by omega
    simp [List.getD_eq_getElem?_getD, List.getElem?_range this]
  · exact .eq (by rw [rho_id, ren_id])

end Go.Am
end
section
namespace Go.Am
variable {P : Program} {N n0 : Nat} {σ : St} {Q : Exit → St → Prop}

theorem not_kept {sel : List Nat} {co : List Ob} {id : Nat} (h : id ∉ sel) : ¬ kept sel co id := by
  rintro ⟨j, hj, he, _⟩
  apply h
  rw [← he, List.getD_eq_getElem?_getD, List.getElem?_eq_getElem hj]
  exact List.getElem_mem hj

/-- the objects that are lent -/
def SelX (ρ : Nat → Nat) (os : List Ob) : List Nat → List Ob → Prop
  | [], [] => True
  | i :: sel, o :: co => os[i]? = some (renO ρ o) ∧ SelX ρ os sel co
  | _, _ => False

theorem SelX.spec {ρ : Nat → Nat} {os : List Ob} : ∀ {sel : List Nat} {co : List Ob}, SelX ρ os sel co → co.length = sel.length ∧ ∀ (j : Nat) o, co[j]? = some o → os[sel.getD j 0]? = some (renO ρ o)
  | [], [], _ => ⟨rfl, by simp⟩
  | i :: sel, o :: co, h => by
    obtain ⟨h1, h3⟩ := h
    obtain ⟨a, b⟩ := SelX.spec h3
    refine ⟨by simp [a], fun j o' hj => ?_⟩
    cases j with
    | zero => simp at hj; subst hj; simpa using h1
    | succ j => simpa using b j o' (by simpa using hj)

def ArgsR (R : AV → AV → Prop) : List AV → List AV → Prop
  | [], [] => True
  | c :: cs, d :: ds => R c d ∧ ArgsR R cs ds
  | _, _ => False

theorem ArgsR.spec {R : AV → AV → Prop} : ∀ {cs ds : List AV}, ArgsR R cs ds → cs.length = ds.length ∧ ∀ (j : Nat) c d, cs[j]? = some c → ds[j]? = some d → R c d
  | [], [], _ => ⟨rfl, by simp⟩
  | c :: cs, d :: ds, h => by
    obtain ⟨a, b⟩ := ArgsR.spec h.2
    refine ⟨by simp [a], fun j c' d' hc hd => ?_⟩
    cases j with
    | zero => simp at hc hd; subst hc; subst hd; exact h.1
    | succ j => exact b j c' d' (by simpa using hc) (by simpa using hd)

theorem ArgR.tup2 {kp : Nat → Prop} {ρ : Nat → Nat} {snap : Bool} {a b c d : AV} (h : ArgR σ kp ρ snap a c) (k : ArgR σ kp ρ snap b d) : ArgR σ kp ρ snap (.tup [a, b]) (.tup [c, d]) :=
  .tup _ _ rfl (ArgsR.spec (R := ArgR σ kp ρ snap) (cs := [a, b]) (ds := [c, d]) ⟨h, k, trivial⟩).2

/-- a call that is lent some objects -/
theorem callK_sel (sel : List Nat) {f : FuncId} {args cargs : List AV} {cobjs : List Ob} {dst : Option Tmp} {K : St → Prop} {res : AV} {cobjs' : List Ob} (h : Holds P f cargs cobjs res cobjs') (hnd : sel.Nodup)
    (ho : SelX (rho σ.objs.length sel) σ.objs sel cobjs) (ha : ArgsR (ArgR σ (· ∈ sel) (rho σ.objs.length sel) false) cargs args)
    (hK : K (({ σ with objs := mergeO σ.objs sel (cobjs'.map (renO (rho σ.objs.length sel))) } : St).put dst (ren (rho σ.objs.length sel) res))) : callK P f args dst K σ := by
  obtain ⟨h1, h2⟩ := ho.spec
  obtain ⟨h3, h4⟩ := ha.spec
  exact ⟨sel, false, cargs, cobjs, res, cobjs', h, ⟨hnd, h1, h2, h3, h4, by simp⟩, hK⟩

/-- the same, and slices of the caller's own are read -/
theorem callK_snap (sel : List Nat) {f : FuncId} {args cargs : List AV} {cobjs : List Ob} {dst : Option Tmp} {K : St → Prop} {res : AV} {cobjs' : List Ob} (h : Holds P f cargs cobjs res cobjs') (hnd : sel.Nodup)
    (ho : SelX (rho σ.objs.length sel) σ.objs sel cobjs) (ha : ArgsR (ArgR σ (· ∈ sel) (rho σ.objs.length sel) true) cargs args) (hf : flat res = true) (hfo : ∀ o ∈ cobjs', flatO o)
    (hK : K (({ σ with objs := mergeO σ.objs sel (cobjs'.map (renO (rho σ.objs.length sel))) } : St).put dst (ren (rho σ.objs.length sel) res))) : callK P f args dst K σ := by
  obtain ⟨h1, h2⟩ := ho.spec
  obtain ⟨h3, h4⟩ := ha.spec
  exact ⟨sel, true, cargs, cobjs, res, cobjs', h, ⟨hnd, h1, h2, h3, h4, fun _ => ⟨hf, hfo⟩⟩, hK⟩

theorem renO_var {ρ : Nat → Nat} (cs : List AV) : renO ρ (.var cs) = .var (cs.map (ren ρ)) := by simp only [renO]
theorem renO_gone' {ρ : Nat → Nat} : renO ρ .gone = .gone := by simp only [renO]

theorem range1 : List.range 1 = [0] := by decide
theorem range2 : List.range 2 = [0, 1] := by decide
theorem range3 : List.range 3 = [0, 1, 2] := by decide
theorem ints_take (xs : List Int) : (ints xs).take xs.length = ints xs := by rw [List.take_of_length_le (by simp [ints])]
theorem bools_take (xs : List Bool) : (bools xs).take xs.length = bools xs := by rw [List.take_of_length_le (by simp [bools])]
theorem intss_take (xs : List (List Int)) : (intss xs).take xs.length = intss xs := by rw [List.take_of_length_le (by simp [intss])]

/-- ways that meet at the head of what comes next -/
theorem join_here {y : Code} {Q0 Q1 : Exit → St → Prop} {G : Prop} (S0 : St) (hn : ∀ s, W P N n0 y Q0 s → Q1 .normal s) (hm : W P N n0 y Q0 S0) (h : (∀ s, Turns n0 s S0 → Q1 .normal s) → G) : G :=
  h fun s ht => hn s (W_turn ht hm)

end Go.Am
end
section
namespace Go.Am
variable {P : Program} {N n0 : Nat} {σ : St} {Q : Exit → St → Prop}

def nextQ (P : Program) (ops : Array Oper) (Q : Exit → Act → World → Prop) (js : List Nat) : Exit → Act → World → Prop
  | .normal, a, w => wpOps P ops Q js a w
  | e, a, w => Q e a w

theorem Oper.wp_monoQ {o : Oper} {a : Act} {w : World} {K : Act → World → Prop} {Q Q' : Exit → Act → World → Prop} (hq : ∀ e a w, e ≠ .normal → Q e a w → Q' e a w) (hl : LetsOut Q → LetsOut Q')
    (hh : o.wp P a w K Q) : o.wp P a w K Q' := by
  unfold Oper.wp at *
  generalize (execOp a.eval o).run P w = r at *
  cases r with
  | ok n w' =>
    cases n <;> simp only [Oper.upon] at hh ⊢ <;>
      first
        | exact hh
        | exact Calls.mono hh (fun e w'' he => by
            cases e with
            | returned v => exact he
            | panicked c => exact hq _ _ _ (by simp) he
            | outgrown => exact hl he)
  | halt x w' => cases x <;> simp only [Oper.upon] at hh ⊢ <;> first | exact hh | exact hq _ _ _ (by simp) hh

theorem wpOps_app {ops : Array Oper} {Q : Exit → Act → World → Prop} {js : List Nat} : ∀ (is : List Nat) (a : Act) (w : World), wpOps P ops (nextQ P ops Q js) is a w → wpOps P ops Q (is ++ js) a w
  | [], a, w, h => h
  | i :: is, a, w, h => by
    rw [List.cons_append, wpOps_cons]
    rw [wpOps_cons] at h
    have hl : LetsOut (nextQ P ops Q js) → LetsOut Q := fun h => h
    unfold wpOp at h ⊢
    cases ho : ops[i]? with
    | none => simp only [ho] at h ⊢; exact wpOps_app is a w h
    | some o =>
      simp only [ho] at h ⊢
      by_cases hw : Region.wanted o (yielded ops a.tmps) = true
      · rw [if_pos hw] at h ⊢
        rcases h with h | ⟨h1, h2⟩
        · left
          exact Oper.wp_monoQ (fun e a w he hq => by cases e <;> first | exact absurd rfl he | exact hq) hl (Oper.wp_mono (fun a w => wpOps_app is a w) h)
        · exact .inr ⟨h1, hl h2⟩
      · rw [if_neg hw] at h ⊢
        exact wpOps_app is _ w h

theorem opsL_soundP {N : Nat} {os : List Ob} {γ0 : Cx} {ops : Array Oper} (hd : ∀ o ∈ ops.toList, ∀ d, o.dst = some d → d < N) {K : St → Prop} {Q : Exit → Act → World → Prop}
    (hQ : ∀ σ' a' w', K σ' → Okay N os γ0 σ' a' w' → Q .normal a' w') : ∀ (l : List Oper) (i : Nat) (σ : St) (a : Act) (w : World), (∀ k, k < l.length → ops[i + k]? = l[k]?) → opsL P ops l K σ → Okay N os γ0 σ a w →
      wpOps P ops Q (List.range' i l.length) a w
  | [], i, σ, a, w, _, h, hok => by simpa [wpOps] using hQ _ _ _ h hok
  | o :: r, i, σ, a, w, hl, h, hok => by
    have hi : ops[i]? = some o := by simpa using hl 0 (by simp)
    have hr : ∀ k, k < r.length → ops[i + 1 + k]? = r[k]? := fun k hk => by
      have := hl (k + 1) (by simpa using hk)
      rw [show i + 1 + k = i + (k + 1) by omega, this]; simp
    have hmem : o ∈ ops.toList := List.mem_of_getElem? (by simpa using hi)
    rw [List.length_cons, List.range'_succ, wpOps_cons]
    unfold wpOp
    simp only [hi]
    unfold opsL at h
    cases hg : o.guard with
    | none =>
      simp only [hg] at h
      have hw : Region.wanted o (yielded ops a.tmps) = true := by simp [Region.wanted, hg]
      rw [if_pos hw]
      left
      exact opG_sound h hok (hd o hmem) (fun σ' a' w' hK hok' => opsL_soundP hd hQ r (i + 1) σ' a' w' hr hK hok')
    | some jw =>
      obtain ⟨j, want⟩ := jw
      simp only [hg] at h
      cases hdj : (ops[j]?).bind (·.dst) with
      | none => simp [hdj] at h
      | some d =>
        simp only [hdj] at h
        split at h
        · rename_i b he
          obtain ⟨hdf, hsz, γ, rfl, ha, hs, hf⟩ := hok
          have hslot := hs.slots d
          rw [he, ha] at hslot
          have hv := hslot.lit_inv
          have hy : yielded ops a.tmps j = some b := by
            unfold yielded
            rw [hdj]
            have : a.tmps[d]? = some (.bool b) := by
              rw [Array.getD_eq_getD_getElem?] at hv
              cases hx : a.tmps[d]? with
              | none => rw [hx] at hv; simp [Go.undef] at hv
              | some y => rw [hx] at hv; simp at hv; rw [hv]
            simp [this]
          by_cases hbw : b = want
          · have hw : Region.wanted o (yielded ops a.tmps) = true := by simp [Region.wanted, hg, hy, hbw]
            rw [if_pos hw]
            left
            exact opG_sound (h.1 hbw) ⟨hdf, hsz, γ, rfl, ha, hs, hf⟩ (hd o hmem) (fun σ' a' w' hK hok' => opsL_soundP hd hQ r (i + 1) σ' a' w' hr hK hok')
          · have hw : Region.wanted o (yielded ops a.tmps) = false := by simp [Region.wanted, hg, hy, hbw]
            rw [if_neg (by rw [hw]; simp)]
            refine opsL_soundP hd hQ r (i + 1) _ _ _ hr (h.2 hbw) ⟨by rw [put_defers]; exact hdf, by rw [put_size]; exact hsz, { γ with tmps := (a.put o.dst Go.undef).tmps }, rfl, rfl, put_sim hs ha (fun d h => by rw [hsz]; exact hd o hmem d h) (.lit _), ?_⟩
            rw [objs_put]; exact hf.put _
        · rename_i vs he
          obtain ⟨hdf, hsz, γ, rfl, ha, hs, hf⟩ := hok
          have hslot := hs.slots d
          rw [he, ha] at hslot
          have hv := hslot.lit_inv
          have hy : yielded ops a.tmps j = none := by
            unfold yielded
            rw [hdj]
            rw [Array.getD_eq_getD_getElem?] at hv
            cases hx : a.tmps[d]? with
            | none => simp [hx]
            | some y => rw [hx] at hv; simp at hv; subst hv; simp [hx]
          have hw : Region.wanted o (yielded ops a.tmps) = false := by simp [Region.wanted, hg, hy]
          rw [if_neg (by rw [hw]; simp)]
          refine opsL_soundP hd hQ r (i + 1) _ _ _ hr h.2 ⟨by rw [put_defers]; exact hdf, by rw [put_size]; exact hsz, { γ with tmps := (a.put o.dst Go.undef).tmps }, rfl, rfl, put_sim hs ha (fun d h => by rw [hsz]; exact hd o hmem d h) (.lit _), ?_⟩
          rw [objs_put]; exact hf.put _
        · exact h.elim

theorem opsL_soundT {os : List Ob} {γ0 : Cx} {ops : Array Oper} (hd : ∀ o ∈ ops.toList, ∀ d, o.dst = some d → d < N) {K K1 : St → Prop} {Q : Exit → Act → World → Prop} (hn : os.length = n0)
    (hQ : ∀ σ' a' w', K σ' → Okay N os γ0 σ' a' w' → Q .normal a' w') (n : Nat) (hK : ∀ s, K1 s → ∃ s1, Turns n0 s s1 ∧ opsL P ops (ops.toList.drop n) K s1) (σ : St) (a : Act) (w : World)
    (h : opsL P ops (ops.toList.take n) K1 σ) (hok : Okay N os γ0 σ a w) : wpOps P ops Q (List.range ops.size) a w := by
  have e : List.range ops.size = List.range' 0 (ops.toList.take n).length ++ List.range' (ops.toList.take n).length (ops.toList.drop n).length := by
    rw [List.range_eq_range']
    have := List.range'_append (s := 0) (m := (ops.toList.take n).length) (n := (ops.toList.drop n).length) (step := 1)
    simp only [Nat.zero_add, Nat.one_mul] at this
    rw [this]
    congr 1
    rw [← List.length_append, List.take_append_drop]; simp
  rw [e]
  refine wpOps_app _ a w ?_
  refine opsL_soundP hd (K := K1) (fun σ' a' w' hk hok' => ?_) (ops.toList.take n) 0 σ a w (fun k hk => ?_) h hok
  · obtain ⟨s1, ht, ho⟩ := hK σ' hk
    obtain ⟨h1, h2, γ, rfl, h3, h4, h5⟩ := hok'
    obtain ⟨γ', e1, e2, e3, e4⟩ := ht os γ0 γ hn h4 h5
    refine opsL_soundP hd hQ (ops.toList.drop n) _ s1 a' γ.w (fun k hk => ?_) ho ⟨h1, h2, γ', e1, e2.trans h3, e3, e4⟩
    rw [List.getElem?_drop]
    simp only [List.length_drop, Array.length_toList] at hk
    rw [List.length_take, Array.length_toList, Nat.min_eq_left (by omega)]
    simp
  · simp only [List.length_take, Array.length_toList] at hk
    rw [List.getElem?_take_of_lt (by omega)]
    simp

/-- a region, with a change of view behind its first n operations -/
theorem W_region_t (n : Nat) {id : Nat} {ops : Array Oper} {y : Code} (hd : dstOK N ops = true) (h : ∀ K K1 : St → Prop, (∀ s, W P N n0 y Q s → K s) → (∀ s s1, Turns n0 s s1 → opsL P ops (ops.toList.drop n) K s1 → K1 s) → opsL P ops (ops.toList.take n) K1 σ) : W P N n0 (.seq (.region id ops false) y) Q σ := by
  refine W_seq ?_
  intro os γ0 a w hn hok
  refine wp_region ?_
  exact opsL_soundT (dstOK_spec hd) hn (K := W P N n0 y Q) (K1 := fun s => ∃ s1, Turns n0 s s1 ∧ opsL P ops (ops.toList.drop n) (W P N n0 y Q) s1) (fun σ' a' w' hK hok' => ⟨σ', hK, hok'⟩) n (fun s h => h) σ a w (h _ _ (fun _ h => h) (fun s s1 h1 h2 => ⟨s1, h1, h2⟩)) hok

end Go.Am
end
section
namespace Go.Am
variable {σ : St}

def RowsR (R : AV → AV → Prop) : List (List AV) → List (List AV) → Prop
  | [], [] => True
  | c :: cs, d :: ds => ArgsR R c d ∧ RowsR R cs ds
  | _, _ => False

theorem RowsR.spec {R : AV → AV → Prop} : ∀ {cs ds : List (List AV)}, RowsR R cs ds → cs.length = ds.length ∧ ∀ (r c : Nat) v, cellAt cs r c = some v → cellAt ds r c = some ((cellAt ds r c).getD .undef) ∧ R v ((cellAt ds r c).getD .undef)
  | [], [], _ => ⟨rfl, by simp [cellAt]⟩
  | c :: cs, d :: ds, h => by
    obtain ⟨a, b⟩ := RowsR.spec h.2
    refine ⟨by simp [a], fun r j v hv => ?_⟩
    cases r with
    | zero =>
      simp only [cellAt, List.getElem?_cons_zero, Option.bind_some] at hv ⊢
      obtain ⟨e1, e2⟩ := h.1.spec
      have hj : j < d.length := by rw [← e1]; exact (List.getElem?_eq_some_iff.1 hv).1
      rw [List.getElem?_eq_getElem hj]
      exact ⟨rfl, e2 j v _ hv (List.getElem?_eq_getElem hj)⟩
    | succ r =>
      have := b r j v (by simpa [cellAt] using hv)
      simpa [cellAt] using this

/-- a slice of one's own is only read from now on, row by row -/
theorem Frz.mk {kp : Nat → Prop} {id sz len : Nat} {rows rows' : List (List AV)} (ho : σ.objs[id]? = some (.arr sz rows)) (hl : len = rows.length) (hsel : ¬ kp id) (hw : ∀ row ∈ rows', row.length = sz) (h : RowsR (Frz σ kp) rows' rows) : Frz σ kp (.tree sz rows') (.ref id sz 0 len) := by
  obtain ⟨a, b⟩ := h.spec
  subst hl
  refine .ref id sz 0 rows.length rows rows' (fun r c => (cellAt rows r c).getD .undef) ho hsel (by simp [a]) hw (fun r c v hv => ?_) (fun r c v hv => ?_)
  · simpa using (b r c v hv).1
  · exact (b r c v hv).2

end Go.Am
end
