import Derived.Test.YtohdbmmapbaalaaAm17
namespace Go.Am
variable {P : Program} {N n0 : Nat} {σ : St} {Q : Exit → St → Prop}

/-- an environment, slot by slot -/
def slots : List (Nat × AV) → Nat → AV
  | [] => fun _ => .undef
  | p :: l => upd (slots l) p.1 p.2

theorem slots_cons (d : Nat) (v : AV) (l : List (Nat × AV)) : slots ((d, v) :: l) = upd (slots l) d v := rfl

theorem slots_or (l : List (Nat × AV)) (k : Nat) : slots l k = .undef ∨ ∃ p ∈ l, p.1 = k ∧ slots l k = p.2 := by
  induction l with
  | nil => exact .inl rfl
  | cons p l ih =>
    by_cases h : k = p.1
    · right
      exact ⟨p, by simp, h.symm, by simp [slots, upd, h]⟩
    · have e : slots (p :: l) k = slots l k := by simp [slots, upd, h]
      rw [e]
      rcases ih with h | ⟨q, hq, h1, h2⟩
      · exact .inl h
      · exact .inr ⟨q, by simp [hq], h1, h2⟩

/-- what some slots hold -/
def Has (e : Nat → AV) : List (Nat × AV) → Prop
  | [] => True
  | p :: l => e p.1 = p.2 ∧ Has e l

theorem Has.mem {e : Nat → AV} : ∀ {l : List (Nat × AV)}, Has e l → ∀ p ∈ l, e p.1 = p.2
  | q :: l, h, p, hp => by
    rcases List.mem_cons.1 hp with rfl | hp
    · exact h.1
    · exact Has.mem h.2 p hp

theorem Turns.slots (l : List (Nat × AV)) (os : List Ob) (ho : σ.objs = os) (h : Has σ.env l) : Turns n0 σ ⟨slots l, os⟩ := by
  subst ho
  refine Turns.forget fun k => ?_
  rcases slots_or l k with h' | ⟨p, hp, rfl, h'⟩
  · exact .inl h'
  · right; rw [h', h.mem p hp]

/-- the objects that are kept -/
def SelO (ρ : Nat → Nat) (os : List Ob) : List Nat → List Ob → Prop
  | [], [] => True
  | i :: sel, o :: co => (i < os.length ∧ (o = .gone ∨ os[i]? = some (renO ρ o))) ∧ SelO ρ os sel co
  | _, _ => False

theorem SelO.spec {ρ : Nat → Nat} {os : List Ob} : ∀ {sel : List Nat} {co : List Ob}, SelO ρ os sel co → co.length = sel.length ∧ (∀ (j : Nat) o, co[j]? = some o → o = .gone ∨ os[sel.getD j 0]? = some (renO ρ o)) ∧ ∀ i ∈ sel, i < os.length
  | [], [], _ => ⟨rfl, by simp, by simp⟩
  | i :: sel, o :: co, h => by
    obtain ⟨⟨h1, h2⟩, h3⟩ := h
    obtain ⟨a, b, c⟩ := SelO.spec h3
    refine ⟨by simp [a], fun j o' hj => ?_, fun x hx => ?_⟩
    · cases j with
      | zero => simp at hj; subst hj; simpa using h2
      | succ j => simpa using b j o' (by simpa using hj)
    · rcases List.mem_cons.1 hx with rfl | hx
      · exact h1
      · exact c x hx

/-- slot by slot: the value there, as it is called from now on -/
def HasR (R : AV → AV → Prop) (e : Nat → AV) : List (Nat × AV) → Prop
  | [] => True
  | p :: l => R p.2 (e p.1) ∧ HasR R e l

theorem HasR.mem {R : AV → AV → Prop} {e : Nat → AV} : ∀ {l : List (Nat × AV)}, HasR R e l → ∀ p ∈ l, R p.2 (e p.1)
  | q :: l, h, p, hp => by
    rcases List.mem_cons.1 hp with rfl | hp
    · exact h.1
    · exact HasR.mem h.2 p hp

/-- the objects that stay objects -/
def kept (sel : List Nat) (co : List Ob) (id : Nat) : Prop := ∃ j, j < sel.length ∧ sel.getD j 0 = id ∧ co[j]? ≠ some .gone

theorem Turns.sel (sel : List Nat) (snap : Bool) (l : List (Nat × AV)) (co : List Ob) (hnd : sel.Nodup) (ho : SelO (rho σ.objs.length sel) σ.objs sel co) (hn : n0 ≤ sel.length) (hid : ∀ i, i < n0 → sel.getD i 0 = i)
    (h : HasR (ArgR σ (kept sel co) (rho σ.objs.length sel) snap) σ.env l) : Turns n0 σ ⟨Am.slots l, co⟩ := by
  obtain ⟨h1, h2, h3⟩ := ho.spec
  refine Turns.select sel snap co _ hnd h1 h2 h3 hn hid fun k => ?_
  rcases slots_or l k with h' | ⟨p, hp, rfl, h'⟩
  · exact .inl h'
  · right; rw [h']; exact h.mem p hp

theorem ArgR.pure {kp : Nat → Prop} {ρ : Nat → Nat} {snap : Bool} {v : AV} (h : noRef v = true) : ArgR σ kp ρ snap v v := by
  have := ArgR.same (σ := σ) (kp := kp) (ρ := ρ) (snap := snap) v
  rwa [ren_noRef _ v h] at this

theorem ArgR.eq {kp : Nat → Prop} {ρ : Nat → Nat} {snap : Bool} {v u : AV} (h : u = ren ρ v) : ArgR σ kp ρ snap v u := by
  subst h; exact .same v

/-- a slice of one's own that is only read from now on -/
theorem Frz.flat {kp : Nat → Prop} {id sz len : Nat} {rows : List (List AV)} (ho : σ.objs[id]? = some (.arr sz rows)) (hw : ∀ row ∈ rows, row.length = sz) (hl : len = rows.length) (hsel : ¬ kp id) (hf : ∀ row ∈ rows, ∀ v ∈ row, (∃ x, v = .lit x) ∨ ∃ s r, v = .tree s r) :
    Frz σ kp (.tree sz rows) (.ref id sz 0 len) := by
  refine .ref id sz 0 len rows rows (fun r c => (cellAt rows r c).getD .undef) ho hsel (by simp [hl]) hw (fun r c v hv => ?_) (fun r c v hv => ?_)
  · simp [hl, hv]
  · rw [hv, Option.getD_some]
    simp only [cellAt, Option.bind_eq_some_iff] at hv
    obtain ⟨row, h1, h2⟩ := hv
    rcases hf row (List.mem_of_getElem? h1) v (List.mem_of_getElem? h2) with ⟨x, rfl⟩ | ⟨s, r, rfl⟩
    · exact .lit x
    · exact .tree s r

theorem ArgR.nil {kp : Nat → Prop} {ρ : Nat → Nat} {sz : Nat} : ArgR σ kp ρ true (.tree sz []) (.lit (.slice none 0 0)) := .snap _ _ rfl (.nil sz)

theorem ArgR.frz {kp : Nat → Prop} {ρ : Nat → Nat} {id sz len : Nat} {rows : List (List AV)} (ho : σ.objs[id]? = some (.arr sz rows)) (hw : ∀ row ∈ rows, row.length = sz) (hl : len = rows.length) (hsel : ¬ kp id) (hf : ∀ row ∈ rows, ∀ v ∈ row, (∃ x, v = .lit x) ∨ ∃ s r, v = .tree s r) :
    ArgR σ kp ρ true (.tree sz rows) (.ref id sz 0 len) := .snap _ _ rfl (Frz.flat ho hw hl hsel hf)

/-- a loop's open end -/
def loopT {α : Type} (n0 : Nat) (S : α → St) (I : α → Prop) (M : α → Nat) (x : α) (Q : Exit → St → Prop) : Exit → St → Prop
  | .normal, s => ∃ y, I y ∧ M y < M x ∧ Turns n0 s (S y)
  | e, s => Q e s

theorem W_loopT {α : Type} {c : Code} (S : α → St) (I : α → Prop) (M : α → Nat) (x0 : α) (hI : I x0) (h0 : Turns n0 σ (S x0)) (round : ∀ x, I x → ∀ Q' : Exit → St → Prop, (∀ s y, I y → M y < M x → Turns n0 s (S y) → Q' .normal s) → (∀ e s, e ≠ .normal → Q e s → Q' e s) → W P N n0 c Q' (S x)) : W P N n0 (.loop c) Q σ := by
  refine W_turn h0 ?_
  -- the rounds, with the turn taken at each head
  intro os γ0 a w hn hok b k cs
  have key : ∀ n x a w, M x = n → I x → Okay N os γ0 (S x) a w →
      ∃ e a' w', (∃ σ', Q e σ' ∧ Okay N os γ0 σ' a' w') ∧ Arrives P (lone (b.at a (.code c :: .inLoop c :: k)) cs w) b k cs e a' w' := by
    intro n
    induction n using Nat.strongRecOn with
    | _ n ih =>
      intro x a w hm hI hok
      have hr : W P N n0 c (loopT n0 S I M x Q) (S x) := round x hI _ (fun s y h1 h2 h3 => ⟨y, h1, h2, h3⟩) (fun e s he h => by cases e <;> first | exact absurd rfl he | exact h)
      obtain ⟨e, a₁, w₁, ⟨σ', hq, hok'⟩, harr⟩ := hr os γ0 a w hn hok b (.inLoop c :: k) cs
      cases e with
      | normal =>
        obtain ⟨y, hIy, hlt, ht⟩ := hq
        obtain ⟨h1, h2, γ, rfl, h3, h4, h5⟩ := hok'
        obtain ⟨γ', e1, e2, e3, e4⟩ := ht os γ0 γ hn h4 h5
        obtain ⟨e₂, a₂, w₂, hq₂, harr₂⟩ := ih (M y) (by omega) y a₁ γ.w rfl hIy ⟨h1, h2, γ', e1, e2.trans h3, e3, e4⟩
        exact ⟨e₂, a₂, w₂, hq₂, .of_steps (Steps.trans harr (.one step_inLoop)) harr₂⟩
      | exit id => exact ⟨_, a₁, w₁, ⟨σ', hq, hok'⟩, .pass (x := .inLoop c) rfl (fun _ _ => .inl (by simp)) harr⟩
      | goto l => exact ⟨_, a₁, w₁, ⟨σ', hq, hok'⟩, .pass (x := .inLoop c) rfl (fun _ _ => .inl (by simp)) harr⟩
      | ret => exact ⟨_, a₁, w₁, ⟨σ', hq, hok'⟩, .pass (x := .inLoop c) rfl (fun _ _ => .inl (by simp)) harr⟩
      | panic ch => exact ⟨_, a₁, w₁, ⟨σ', hq, hok'⟩, .pass (x := .inLoop c) rfl (fun _ _ => .inl (by simp)) harr⟩
      | outgrown => exact ⟨_, a₁, w₁, ⟨σ', hq, hok'⟩, .pass (x := .inLoop c) rfl (fun _ _ => .inl (by simp)) harr⟩
  obtain ⟨e, a', w', hq, harr⟩ := key _ x0 a w rfl hI hok
  exact ⟨e, a', w', hq, .of_steps (.one step_loop) harr⟩

/-- a block whose exits are followed -/
theorem W_block_k {id : Nat} {c : Code} (h : ∀ Q' : Exit → St → Prop, (∀ s, Q .normal s → Q' .normal s) → (∀ s, Q .normal s → Q' (.exit id) s) → (∀ e s, e ≠ .normal → e ≠ .exit id → Q e s → Q' e s) → W P N n0 c Q' σ) : W P N n0 (.block id c) Q σ :=
  W_block (h _ (fun s h => h) (fun s h => by simp only [blockQ, if_true]; exact h) (fun e s h1 h2 h => by
    cases e <;> first
      | exact absurd rfl h1
      | exact h
      | (rename_i id'; simp only [blockQ]; rw [if_neg (fun e => h2 (by rw [e]))]; exact h)))

/-- ways that meet again -/
theorem W_joinT {α : Type} {x y : Code} (S : α → St) (I : α → Prop) (hx : ∀ Q' : Exit → St → Prop, (∀ s z, I z → Turns n0 s (S z) → Q' .normal s) → (∀ e s, e ≠ .normal → Q e s → Q' e s) → W P N n0 x Q' σ)
    (hy : ∀ z, I z → W P N n0 y Q (S z)) : W P N n0 (.seq x y) Q σ :=
  W_seq (hx _ (fun s z hz ht => W_turn ht (hy z hz)) (fun e s he h => by cases e <;> first | exact absurd rfl he | exact h))

theorem renO_noRef {ρ : Nat → Nat} {sz : Nat} {rows : List (List AV)} (h : ∀ row ∈ rows, noRefL row = true) : renO ρ (.arr sz rows) = .arr sz rows := by
  simp only [renO]
  congr 1
  have : ∀ row ∈ rows, row.map (ren ρ) = row := fun row hr => by
    have := renL_noRef ρ row (h row hr)
    rwa [renL_eq] at this
  rw [List.map_congr_left this]
  simp

theorem rho_range (n j : Nat) : rho n (List.range n) j = j := by
  unfold rho
  split
  · rename_i h
    have h' : j < n := by simpa using h
    simp [List.getD_eq_getElem?_getD, List.getElem?_range h']
  · rename_i h
    simp at h ⊢
    omega

mutual
theorem ren_id : ∀ (v : AV), ren (fun j => j) v = v
  | .undef => rfl
  | .lit _ => rfl
  | .tree .. => rfl
  | .taddr _ => rfl
  | .ref .. => rfl
  | .ptr .. => rfl
  | .agg cs => by simp only [ren]; rw [renL_id cs]
  | .tup cs => by simp only [ren]; rw [renL_id cs]
  | .fn f cs => by simp only [ren]; rw [renL_id cs]
theorem renL_id : ∀ (l : List AV), renL (fun j => j) l = l
  | [] => rfl
  | v :: vs => by simp only [renL]; rw [ren_id v, renL_id vs]
end

theorem renO_id (o : Ob) : renO (fun j => j) o = o := by
  have h : ren (fun j => j) = id := by funext v; exact ren_id v
  cases o with
  | gone => rfl
  | var cs => simp [renO, h]
  | arr sz rows => simp [renO, h]

theorem rho_id (n : Nat) : rho n (List.range n) = fun j => j := by funext j; exact rho_range n j

theorem mergeO_range (objs : List Ob) : ∀ (objs' : List Ob), objs.length ≤ objs'.length → mergeO objs (List.range objs.length) objs' = objs' := by
  intro objs' h
  have hlen : (List.range objs.length).length ≤ objs'.length := by simpa using h
  apply List.ext_getElem?
  intro i
  rcases Nat.lt_or_ge i objs.length with hi | hi
  · have := mergeO_sel (List.range objs.length) objs objs' hlen (List.nodup_range) (by simp) i (by simpa using hi)
    simpa [List.getD_eq_getElem?_getD, List.getElem?_range hi] using this
  · have hml := mergeO_length (List.range objs.length) objs objs' hlen
    obtain ⟨j, rfl⟩ : ∃ j, i = objs.length + j := ⟨i - objs.length, by omega⟩
    have := mergeO_new (List.range objs.length) objs objs' hlen j
    simpa using this

/-- a call that is lent all objects -/
theorem callK_all {f : FuncId} {args : List AV} {dst : Option Tmp} {K : St → Prop} {res : AV} {objs' : List Ob} (h : Holds P f args σ.objs res objs') (hl : σ.objs.length ≤ objs'.length) (hK : K ((⟨σ.env, objs'⟩ : St).put dst res)) : callK P f args dst K σ := by
  refine ⟨List.range σ.objs.length, false, args, σ.objs, res, objs', h, ⟨List.nodup_range, by simp, ?_, rfl, ?_, by simp⟩, ?_⟩
  · intro j o hj
    have hlt := (List.getElem?_eq_some_iff.1 hj).1
    rw [rho_id, renO_id]
    simpa [List.getD_eq_getElem?_getD, List.getElem?_range hlt] using hj
  · intro j c d hc hd
    rw [hc] at hd
    simp only [Option.some.injEq] at hd
    subst hd
    exact .eq (by rw [rho_id, ren_id])
  · rw [rho_id, ren_id]
    have : objs'.map (renO (fun j => j)) = objs' := by
      have h : renO (fun j => j) = id := by funext o; exact renO_id o
      simp [h]
    rw [this, mergeO_range _ _ hl]
    exact hK

end Go.Am
