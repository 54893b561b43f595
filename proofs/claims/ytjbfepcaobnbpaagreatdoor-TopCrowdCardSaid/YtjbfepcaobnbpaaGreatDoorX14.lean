import Derived.Test.YtjbfepcaobnbpaaGreatDoorX13
set_option linter.unusedVariables false
set_option linter.unusedSimpArgs false
set_option linter.unnecessarySimpa false
set_option linter.unusedSectionVars false
section
/- WHAT A STEP HANGS ON; READERS -/
namespace Go.Am
variable {P : Program} {N n0 : Nat}

section
variable {T : Env P} {call : CallX} {n : Nat} {h : E5}

/-- a step that leaves the objects as they are -/
def Rd (n : Nat) (h : E5) (x : Option VS) : Prop := ∀ r, x = some r → r.n = n ∧ r.ob = h
theorem Rd.some {v : AV} : Rd n h (some ⟨v, n, h⟩) := fun r hr => by simp only [Option.some.injEq] at hr; subst hr; exact ⟨rfl, rfl⟩
theorem Rd.none : Rd n h none := fun r hr => by cases hr
theorem Rd.ifX {b : Bool} {x y : Option VS} (hx : Rd n h x) (hy : Rd n h y) : Rd n h (ifX b x y) := by cases b; exact hy; exact hx
theorem Rd.gd {b : Bool} {x : Option VS} (hx : Rd n h x) : Rd n h (gd b x) := Rd.ifX hx Rd.none
theorem Rd.opt {α : Type} {o : Option α} {k : α → Option VS} (hk : ∀ a, Rd n h (k a)) : Rd n h (opt o k) := by
  cases o with
  | none => exact Rd.none
  | some a => exact hk a
theorem Rd.kOK {t : Ty} {x y : Option VS} (hx : Rd n h x) (hy : Rd n h y) : Rd n h (kOK t x y) := Rd.ifX hy hx
theorem Rd.litK {v : AV} {k : Value → Option VS} {d : Option VS} (hk : ∀ x, Rd n h (k x)) (hd : Rd n h d) : Rd n h (litK v k d) := by cases v <;> first | exact hk _ | exact hd
theorem Rd.addrK {v : AV} {k1 : Nat → Nat → Nat → Option VS} {k2 : List AV → Option VS} {d : Option VS} (h1 : ∀ a b c, Rd n h (k1 a b c)) (h2 : ∀ x, Rd n h (k2 x)) (hd : Rd n h d) : Rd n h (addrK v k1 k2 d) := by
  cases v <;> first | exact h1 _ _ _ | exact h2 _ | exact hd
theorem Rd.seqK {v : AV} {k1 : Nat → Nat → Nat → Nat → Option VS} {k2 : Nat → List (List AV) → Option VS} {k3 : Value → Option VS} {d : Option VS} (h1 : ∀ a b c e, Rd n h (k1 a b c e)) (h2 : ∀ x y, Rd n h (k2 x y)) (h3 : ∀ x, Rd n h (k3 x)) (hd : Rd n h d) : Rd n h (seqK v k1 k2 k3 d) := by
  cases v <;> first | exact h1 _ _ _ _ | exact h2 _ _ | exact h3 _ | exact hd
theorem Rd.lenK {v : AV} {k1 : Nat → Nat → Nat → Nat → Option VS} {k2 : Nat → List (List AV) → Option VS} {k3 : Nat → Option VS} {k4 : Value → Option VS} {d : Option VS} (h1 : ∀ a b c e, Rd n h (k1 a b c e)) (h2 : ∀ x y, Rd n h (k2 x y)) (h3 : ∀ x, Rd n h (k3 x)) (h4 : ∀ x, Rd n h (k4 x)) (hd : Rd n h d) : Rd n h (lenK v k1 k2 k3 k4 d) := by
  cases v <;> first | exact h1 _ _ _ _ | exact h2 _ _ | exact h3 _ | exact h4 _ | exact hd
theorem Rd.aggK {v : AV} {k : List AV → Option VS} {d : Option VS} (hk : ∀ x, Rd n h (k x)) (hd : Rd n h d) : Rd n h (aggK v k d) := by cases v <;> first | exact hk _ | exact hd
theorem Rd.tupK {v : AV} {k : List AV → Option VS} {d : Option VS} (hk : ∀ x, Rd n h (k x)) (hd : Rd n h d) : Rd n h (tupK v k d) := by cases v <;> first | exact hk _ | exact hd
theorem Rd.intK {v : Value} {k : IntKind → Int → Option VS} {d : Option VS} (hk : ∀ x y, Rd n h (k x y)) (hd : Rd n h d) : Rd n h (intK v k d) := by cases v <;> first | exact hk _ _ | exact hd
theorem Rd.boolK {v : Value} {k : Bool → Option VS} {d : Option VS} (hk : ∀ x, Rd n h (k x)) (hd : Rd n h d) : Rd n h (boolK v k d) := by cases v <;> first | exact hk _ | exact hd
theorem Rd.valK {v : Value} {k1 : IntKind → Int → Option VS} {k2 : Bool → Option VS} {k3 : ByteArray → Option VS} {d : Option VS} (h1 : ∀ x y, Rd n h (k1 x y)) (h2 : ∀ x, Rd n h (k2 x)) (h3 : ∀ x, Rd n h (k3 x)) (hd : Rd n h d) : Rd n h (valK v k1 k2 k3 d) := by
  cases v <;> first | exact h1 _ _ | exact h2 _ | exact h3 _ | exact hd
theorem Rd.obX {id : Nat} {f : List AV → Option VS} {g : Nat → List (List AV) → Option VS} {m : Nat → List (List Int × AV) → Option VS} {d : Option VS} (hf : ∀ x, Rd n h (f x)) (hg : ∀ x y, Rd n h (g x y)) (hm : ∀ x y, Rd n h (m x y)) (hd : Rd n h d) : Rd n h (obX n h id f g m d) := by
  unfold Go.Am.obX
  refine Rd.ifX ?_ hd
  cases g5 id h <;> first | exact hf _ | exact hg _ _ | exact hm _ _ | exact hd
theorem Rd.livX {id : Nat} {x y : Option VS} (hx : Rd n h x) (hy : Rd n h y) : Rd n h (livX n h id x y) := Rd.obX (fun _ => hx) (fun _ _ => hx) (fun _ _ => hx) hy
theorem Rd.arrX {id : Nat} {f : Nat → List (List AV) → Option VS} (hf : ∀ x y, Rd n h (f x y)) : Rd n h (arrX n h id f) := Rd.obX (fun _ => Rd.none) hf (fun _ _ => Rd.none) Rd.none
theorem Rd.natX {v : AV} {k : IntKind → Nat → Option VS} (hk : ∀ x y, Rd n h (k x y)) : Rd n h (Go.Am.natX v k Option.none) := by
  unfold Go.Am.natX
  refine Rd.litK (fun w => Rd.intK (fun kk m => ?_) Rd.none) Rd.none
  cases m
  · exact hk _ _
  · exact Rd.none
theorem Rd.nilX {v : Value} {x : Option VS} (hx : Rd n h x) : Rd n h (nilX v x) := by
  unfold Go.Am.nilX
  split
  · exact hx
  · exact Rd.none
theorem Rd.loX {e : E3} {o : Option Operand} {d : Nat} {k : Nat → Option VS} (hk : ∀ x, Rd n h (k x)) : Rd n h (loX e o d k) := by
  unfold Go.Am.loX
  split
  · exact hk _
  · exact Rd.natX fun _ _ => hk _
theorem Rd.ldX {t : Ty} {cells : List AV} {c : Nat} : Rd n h (ldX t cells c n h) :=
  Rd.kOK (Rd.ifX (Rd.ifX Rd.some Rd.none) (Rd.opt fun _ => Rd.some)) Rd.none
theorem Rd.strK {v : Value} {k : ByteArray → Option VS} {d : Option VS} (hk : ∀ x, Rd n h (k x)) (hd : Rd n h d) : Rd n h (strK v k d) := by cases v <;> first | exact hk _ | exact hd
theorem Rd.strV {v : Value} {k : ByteArray → Option VS} {d : Option VS} (hk : ∀ x, Rd n h (k x)) (hd : Rd n h d) : Rd n h (strV v k d) := by
  unfold Go.Am.strV
  split
  · exact hk _
  · exact hd
theorem Rd.binK {v : AV} {k1 : Value → Option VS} {k2 : Nat → Nat → Nat → Option VS} {k3 : Nat → Nat → Nat → Nat → Option VS} {k4 : List AV → Option VS} {d : Option VS} (h1 : ∀ x, Rd n h (k1 x)) (h2 : ∀ a b c, Rd n h (k2 a b c)) (h3 : ∀ a b c e, Rd n h (k3 a b c e)) (h4 : ∀ x, Rd n h (k4 x)) (hd : Rd n h d) : Rd n h (binK v k1 k2 k3 k4 d) := by
  cases v <;> first | exact h1 _ | exact h2 _ _ _ | exact h3 _ _ _ _ | exact h4 _ | exact hd
theorem Rd.nilP {v : Value} {x : Option VS} (hx : Rd n h x) : Rd n h (nilP v x) := by
  unfold Go.Am.nilP
  split
  · exact hx
  · exact Rd.none
theorem Rd.mapE {v : AV} {f : Nat → Option VS} (hf : ∀ i, Rd n h (f i)) : Rd n h (mapE n h v f) := by
  unfold Go.Am.mapE
  cases v <;> first | exact Rd.none | exact Rd.obX (fun _ => Rd.none) (fun _ _ => Rd.none) (fun _ L => by unfold nilL; split; exact hf _; exact Rd.none) Rd.none

/-- a reader: it leaves the objects -/
def rdC : Callee → Bool
  | .builtin .len => true
  | .builtin .min => true
  | .builtin .max => true
  | _ => false
def rdB (T : Env P) : Op → Bool
  | .move _ | .assign _ | .pick .. | .load .. | .nilCheck _ | .binOp .. | .unOp .. | .fieldAddr .. | .field .. | .indexAddr .. | .extract .. | .build .. | .makeInterface .. | .makeFunc .. | .index .. | .slice .. => true
  | .buildSlice t len _ => andB2 (Nat.blt 0 len) (scT (T.ty (T.ty t).elem).kind)
  | .call c => rdC c.callee
  | _ => false

/-- one step of a proof that a step leaves the objects -/
theorem rd_same {op : Op} {T : Env P} {call : CallX} {e : E3} {r : VS} (hrd : rdB T op = true) (hr : opX op T call e n h = some r) : r.n = n ∧ r.ob = h := by
  have key : Rd n h (opX op T call e n h) := by
    cases op with
    | move x => exact Rd.some
    | assign x => exact Rd.some
    | pick c a b => exact Rd.litK (fun _ => Rd.boolK (fun _ => Rd.some) Rd.none) Rd.none
    | load t a => exact Rd.addrK (fun _ _ _ => Rd.opt fun _ => Rd.ldX) (fun _ => Rd.ldX) Rd.none
    | nilCheck x => exact Rd.addrK (fun _ _ _ => Rd.livX Rd.some Rd.none) (fun _ => Rd.some) Rd.none
    | binOp op t x y u =>
      refine Rd.binK (fun v => Rd.litK (fun w => Rd.valK (fun k a => Rd.intK (fun k' b => Rd.ifX (Rd.opt fun _ => Rd.some) (Rd.ifX (Rd.opt fun _ => Rd.some) Rd.none)) Rd.none) (fun a => Rd.boolK (fun b => Rd.ifX (Rd.opt fun _ => Rd.some) Rd.none) Rd.none)
        (fun a => Rd.strK (fun b => Rd.opt fun _ => Rd.some) Rd.none) (Rd.opt fun _ => Rd.some)) Rd.none) (fun _ _ _ => Rd.litK (fun w => Rd.nilP (Rd.gd (Rd.livX (Rd.opt fun _ => Rd.some) Rd.none))) Rd.none)
        (fun _ _ _ _ => Rd.litK (fun w => Rd.nilX (Rd.gd (Rd.arrX fun _ _ => Rd.gd (Rd.gd (Rd.opt fun _ => Rd.some))))) Rd.none) (fun _ => Rd.aggK (fun _ => Rd.opt fun _ => Rd.opt fun _ => Rd.gd (Rd.gd (Rd.opt fun _ => Rd.some))) Rd.none) Rd.none
    | unOp op t x =>
      cases op with
      | not => exact Rd.litK (fun _ => Rd.boolK (fun _ => Rd.some) Rd.none) Rd.none
      | neg => exact Rd.litK (fun _ => Rd.intK (fun _ _ => Rd.opt fun _ => Rd.some) Rd.none) Rd.none
      | _ => exact Rd.none
    | fieldAddr s x f => exact Rd.ifX (Rd.opt fun _ => Rd.ifX (Rd.addrK (fun _ _ _ => Rd.livX Rd.some Rd.none) (fun _ => Rd.some) Rd.none) Rd.none) Rd.none
    | field s x f => exact Rd.ifX (Rd.opt fun _ => Rd.kOK (Rd.ifX (Rd.aggK (fun _ => Rd.ifX (Rd.ifX Rd.some Rd.none) (Rd.opt fun _ => Rd.some)) Rd.none) Rd.none) Rd.none) Rd.none
    | indexAddr t x i =>
      exact Rd.natX fun _ _ => Rd.ifX (Rd.seqK (fun _ _ _ _ => Rd.arrX fun _ _ => Rd.gd (Rd.gd (Rd.kOK (Rd.gd Rd.some) Rd.none))) (fun _ _ => Rd.gd (Rd.kOK (Rd.opt fun _ => Rd.some) Rd.none)) (fun _ => Rd.none) Rd.none)
        (Rd.gd (Rd.gd (Rd.kOK (Rd.addrK (fun _ _ _ => Rd.livX Rd.some Rd.none) (fun _ => Rd.some) Rd.none) Rd.none)))
    | extract x i => exact Rd.tupK (fun _ => Rd.opt fun _ => Rd.some) Rd.none
    | build t parts => exact Rd.opt fun _ => Rd.ifX (Rd.gd (Rd.opt fun _ => Rd.some)) (Rd.gd (Rd.kOK (Rd.opt fun _ => Rd.some) Rd.none))
    | buildSlice t len parts =>
      have hrd : andB2 (Nat.blt 0 len) (scT (T.ty (T.ty t).elem).kind) = true := hrd
      show Rd n h (x_bs2 t len parts T call e n h)
      unfold x_bs2
      rw [hrd]
      exact Rd.gd (Rd.kOK (Rd.opt fun _ => Rd.gd (Rd.gd (Rd.gd (Rd.opt fun _ => Rd.gd Rd.some)))) Rd.none)
    | makeInterface t x => exact Rd.ifX Rd.none Rd.some
    | makeFunc fn a b =>
      cases fn with
      | func f => exact Rd.ifX Rd.some (Rd.gd Rd.some)
      | _ => exact Rd.none
    | index t x i => exact Rd.litK (fun _ => Rd.strK (fun _ => Rd.natX fun _ _ => Rd.opt fun _ => Rd.gd Rd.some) Rd.none) Rd.none
    | slice t x lo hi mx =>
      have hs : Rd n h (x_slice t x lo hi mx T call e n h) := Rd.gd (Rd.kOK (Rd.gd (Rd.seqK (fun _ _ _ _ => Rd.arrX fun _ _ => Rd.gd (Rd.gd (Rd.loX fun _ => Rd.loX fun _ => Rd.gd (Rd.gd Rd.some)))) (fun _ _ => Rd.gd (Rd.loX fun _ => Rd.loX fun _ => Rd.gd (Rd.gd Rd.some))) (fun _ => Rd.none) Rd.none)) Rd.none)
      exact Rd.seqK (fun _ _ _ _ => hs) (fun _ _ => hs) (fun _ => Rd.strK (fun _ => Rd.gd (Rd.gd (Rd.loX fun _ => Rd.loX fun _ => Rd.gd (Rd.gd Rd.some)))) Rd.none) Rd.none
    | call c =>
      obtain ⟨callee, args, ats⟩ := c
      cases callee with
      | builtin b =>
        cases b with
        | len =>
          show Rd n h (x_len2 args ats T call e n h)
          unfold x_len2
          split
          · exact Rd.lenK (fun _ _ _ _ => Rd.gd (Rd.arrX fun _ _ => Rd.gd Rd.some)) (fun _ _ => Rd.gd Rd.some) (fun _ => Rd.gd (Rd.obX (fun _ => Rd.none) (fun _ _ => Rd.none) (fun _ _ => Rd.some) Rd.none)) (fun _ => Rd.strV (fun _ => Rd.gd Rd.some) (Rd.nilX (Rd.gd Rd.some))) Rd.none
          · exact Rd.none
        | min =>
          show Rd n h (x_min args T call e n h)
          unfold x_min
          split
          · exact Rd.litK (fun _ => Rd.litK (fun _ => Rd.intK (fun _ _ => Rd.intK (fun _ _ => Rd.gd Rd.some) Rd.none) Rd.none) Rd.none) Rd.none
          · exact Rd.none
        | max =>
          show Rd n h (x_max2 args T call e n h)
          unfold x_max2
          split
          · exact Rd.litK (fun _ => Rd.litK (fun _ => Rd.intK (fun _ _ => Rd.intK (fun _ _ => Rd.gd Rd.some) Rd.none) Rd.none) Rd.none) Rd.none
          · exact Rd.litK (fun _ => Rd.litK (fun _ => Rd.litK (fun _ => Rd.intK (fun _ _ => Rd.intK (fun _ _ => Rd.intK (fun _ _ => Rd.gd (Rd.gd Rd.some)) Rd.none) Rd.none) Rd.none) Rd.none) Rd.none) Rd.none
          · exact Rd.none
        | _ => exact absurd hrd (by intro e; cases e)
      | _ => exact absurd hrd (by intro e; cases e)
    | _ => exact absurd hrd (by intro e; cases e)
  exact key r hr
end

/-! ### what a step looks at -/
section
variable {T : Env P} {call : CallX} {n : Nat} {h : E5} {e e' : E3}

theorem mapX_congr {l : List Operand} {t : List AV} (he : ∀ x ∈ l, evX x e = evX x e') : mapX l e t = mapX l e' t := by
  induction l with
  | nil => rfl
  | cons x l ih =>
    show evX x e :: mapX l e t = evX x e' :: mapX l e' t
    rw [he x (by simp), ih fun y hy => he y (by simp [hy])]
theorem prtX_congr {l : List (Nat × Operand)} (he : ∀ x ∈ l, evX x.2 e = evX x.2 e') : prtX e l = prtX e' l := List.map_congr_left fun p hp => by rw [he p hp]
theorem mapE_congr {l : List Operand} (he : ∀ x ∈ l, evX x e = evX x e') : (l.map fun x => evX x e) = l.map fun x => evX x e' := List.map_congr_left fun p hp => he p hp
theorem loX_congr {β : Type} {o : Option Operand} {d : Nat} {k k' : Nat → Option β} (he : ∀ x, o = some x → evX x e = evX x e') (hk : ∀ i, k i = k' i) : loX e o d k = loX e' o d k' := by
  have : k = k' := funext hk
  subst this
  unfold loX
  cases o with
  | none => rfl
  | some x => simp only [he x rfl]

theorem opX_congr {op : Op} (he : ∀ x ∈ op.operands.toList, evX x e = evX x e') : opX op T call e n h = opX op T call e' n h := by
  cases op with
  | move x => show x_move x T call e n h = x_move x T call e' n h; unfold x_move; rw [he x (by simp [Op.operands])]
  | assign x => show x_move x T call e n h = x_move x T call e' n h; unfold x_move; rw [he x (by simp [Op.operands])]
  | pick c a b => show x_pick c a b T call e n h = x_pick c a b T call e' n h; unfold x_pick; rw [he c (by simp [Op.operands]), he a (by simp [Op.operands]), he b (by simp [Op.operands])]
  | alloc t => rfl
  | box t x => show x_box t x T call e n h = x_box t x T call e' n h; unfold x_box; rw [he x (by simp [Op.operands])]
  | build t parts => show x_build t parts T call e n h = x_build t parts T call e' n h; unfold x_build; rw [prtX_congr (e := e) (e' := e') fun x hx => he x.2 (by simp only [Op.operands]; exact List.mem_map_of_mem hx)]
  | buildSlice t len parts => show x_bs2 t len parts T call e n h = x_bs2 t len parts T call e' n h; unfold x_bs2 x_bsTree x_buildSlice; rw [prtX_congr (e := e) (e' := e') fun x hx => he x.2 (by simp only [Op.operands]; exact List.mem_map_of_mem hx)]
  | load t a => show x_load t a T call e n h = x_load t a T call e' n h; unfold x_load; rw [he a (by simp [Op.operands])]
  | store t a x => show x_store t a x T call e n h = x_store t a x T call e' n h; unfold x_store; rw [he a (by simp [Op.operands]), he x (by simp [Op.operands])]
  | nilCheck x => show x_nilCheck x T call e n h = x_nilCheck x T call e' n h; unfold x_nilCheck; rw [he x (by simp [Op.operands])]
  | binOp op t x y u => show x_bin2 op t x y u T call e n h = x_bin2 op t x y u T call e' n h; unfold x_bin2; rw [he x (by simp [Op.operands]), he y (by simp [Op.operands])]
  | unOp op t x =>
    cases op with
    | not => show x_not x T call e n h = x_not x T call e' n h; unfold x_not; rw [he x (by simp [Op.operands])]
    | neg => show x_neg x T call e n h = x_neg x T call e' n h; unfold x_neg; rw [he x (by simp [Op.operands])]
    | _ => rfl
  | convert s d x => show x_conv2 s d x T call e n h = x_conv2 s d x T call e' n h; unfold x_conv2 x_convI; rw [he x (by simp [Op.operands])]
  | makeInterface t x => show x_makeInterface t x T call e n h = x_makeInterface t x T call e' n h; unfold x_makeInterface; rw [he x (by simp [Op.operands])]
  | makeFunc fn a b =>
    cases fn with
    | func f =>
      show x_makeFunc2 (.func f) a b T call e n h = x_makeFunc2 (.func f) a b T call e' n h
      unfold x_makeFunc2
      simp only
      rw [mapE_congr (e := e) (e' := e') (l := a.toList) fun x hx => he x (by simp only [Op.operands, Array.toList_append, List.mem_append]; exact .inl hx), mapE_congr (e := e) (e' := e') (l := b.toList) fun x hx => he x (by simp only [Op.operands, Array.toList_append, List.mem_append]; exact .inr hx)]
    | _ => rfl
  | makeMap t r => rfl
  | makeSlice t l c => show x_makeSlice t l c T call e n h = x_makeSlice t l c T call e' n h; unfold x_makeSlice; rw [he l (by simp [Op.operands]), he c (by simp [Op.operands])]
  | slice t x lo hi mx =>
    have hl : ∀ y, lo = some y → evX y e = evX y e' := fun y hy => he y (by subst hy; simp [Op.operands])
    have hh : ∀ y, hi = some y → evX y e = evX y e' := fun y hy => he y (by subst hy; simp [Op.operands])
    show x_slice2 t x lo hi mx T call e n h = x_slice2 t x lo hi mx T call e' n h
    unfold x_slice2 x_slice
    rw [he x (by simp [Op.operands])]
    have hlo : ∀ (d d' : Nat) (k : Nat → Nat → Option VS), (loX e lo d fun l => loX e hi d' fun u => k l u) = (loX e' lo d fun l => loX e' hi d' fun u => k l u) := fun d d' k => loX_congr hl fun l => loX_congr hh fun u => rfl
    simp only [hlo]
  | fieldAddr s x f => show x_fieldAddr s x f T call e n h = x_fieldAddr s x f T call e' n h; unfold x_fieldAddr; rw [he x (by simp [Op.operands])]
  | field s x f => show x_field s x f T call e n h = x_field s x f T call e' n h; unfold x_field; rw [he x (by simp [Op.operands])]
  | indexAddr t x i => show x_indexAddr t x i T call e n h = x_indexAddr t x i T call e' n h; unfold x_indexAddr; rw [he x (by simp [Op.operands]), he i (by simp [Op.operands])]
  | index t x i => show x_index t x i T call e n h = x_index t x i T call e' n h; unfold x_index; rw [he x (by simp [Op.operands]), he i (by simp [Op.operands])]
  | lookup t x i ok => show x_lookup t x i ok T call e n h = x_lookup t x i ok T call e' n h; unfold x_lookup; rw [he x (by simp [Op.operands]), he i (by simp [Op.operands])]
  | mapUpdate t m k x => show x_mapUpdate t m k x T call e n h = x_mapUpdate t m k x T call e' n h; unfold x_mapUpdate; rw [he m (by simp [Op.operands]), he k (by simp [Op.operands])]
  | extract x i => show x_extract x i T call e n h = x_extract x i T call e' n h; unfold x_extract; rw [he x (by simp [Op.operands])]
  | call c =>
    obtain ⟨callee, args, ats⟩ := c
    cases callee with
    | builtin b =>
      have ha : ∀ x ∈ args.toList, evX x e = evX x e' := fun x hx => he x (by simpa [Op.operands, Call.operands] using hx)
      cases b with
      | len =>
        show x_len2 args ats T call e n h = x_len2 args ats T call e' n h
        unfold x_len2
        split
        · rename_i x t hx _; unfold lenB2; rw [ha x (by rw [hx]; simp)]
        · rfl
      | append =>
        show x_append2 args ats T call e n h = x_append2 args ats T call e' n h
        unfold x_append2
        split
        · rename_i d x t t' hx _; unfold appB2; rw [ha x (by rw [hx]; simp), ha d (by rw [hx]; simp)]
        · rfl
      | min =>
        show x_min args T call e n h = x_min args T call e' n h
        unfold x_min
        split
        · rename_i x y hx; unfold mm; rw [ha x (by rw [hx]; simp), ha y (by rw [hx]; simp)]
        · rfl
      | max =>
        show x_max2 args T call e n h = x_max2 args T call e' n h
        unfold x_max2
        split
        · rename_i x y hx; unfold mm; rw [ha x (by rw [hx]; simp), ha y (by rw [hx]; simp)]
        · rename_i x y z hx; unfold mm3; rw [ha x (by rw [hx]; simp), ha y (by rw [hx]; simp), ha z (by rw [hx]; simp)]
        · rfl
      | copy =>
        show x_copy args ats T call e n h = x_copy args ats T call e' n h
        unfold x_copy
        split
        · rename_i d x t t' hx _; unfold cpyB; rw [ha x (by rw [hx]; simp), ha d (by rw [hx]; simp)]
        · rfl
      | _ => rfl
    | value f =>
      have hf : evX f e = evX f e' := he f (by simp [Op.operands, Call.operands])
      have ha : ∀ x ∈ args.toList, evX x e = evX x e' := fun x hx => he x (by simp only [Op.operands, Call.operands, Array.toList_append, List.mem_append]; exact .inr hx)
      show x_val f args T call e n h = x_val f args T call e' n h
      unfold x_val
      rw [hf]
      have hn : ∀ g, natC T g args e n h = natC T g args e' n h := by
        intro g
        unfold natC
        split
        · rename_i x y hx; rw [ha x (by rw [hx]; simp), ha y (by rw [hx]; simp)]
        · rfl
      have hm : ∀ t, mapX args.toList e t = mapX args.toList e' t := fun t => mapX_congr ha
      simp only [hn, hm]
    | invoke r m => rfl
  | _ => rfl

theorem evX_tmp {t : Nat} {e : E3} : evX (.tmp t) e = envA e t := evX_eq (.tmp t) e []
theorem gopX_congr {ops : Array Oper} {o : Oper} (he : ∀ t ∈ o.looksAt ops, envA e t = envA e' t) : gopX T call ops o e n h = gopX T call ops o e' n h := by
  have h1 : opX o.op T call e n h = opX o.op T call e' n h := opX_congr fun x hx => by
    cases x with
    | tmp t =>
      rw [evX_tmp, evX_tmp]
      refine he t ?_
      unfold Oper.looksAt
      rw [List.mem_append]
      left
      rw [List.mem_filterMap]
      exact ⟨_, hx, rfl⟩
    | const v => rfl
    | func f => rfl
    | global g => rfl
  unfold gopX
  cases hg : o.guard with
  | none => exact h1
  | some p =>
    obtain ⟨j, want⟩ := p
    show opt (gslot ops j) _ = opt (gslot ops j) _
    cases hd : gslot ops j with
    | none => rfl
    | some d =>
      show grdV T call o.op want (evX (.tmp d) e) e n h = grdV T call o.op want (evX (.tmp d) e') e' n h
      have : envA e d = envA e' d := he d (guard_looks hg hd)
      rw [evX_tmp, evX_tmp, this]
      unfold grdV
      rw [h1]
end

/-! ### values alike -/
noncomputable def andX (a b : Bool) : Bool := ifX a b false
theorem andX_true {a b : Bool} (h : andX a b = true) : a = true ∧ b = true := by cases a <;> cases b <;> first | exact ⟨rfl, rfl⟩ | exact absurd h (by intro e; cases e)
def beqO (x y : Value) : Bool :=
  match x, y with
  | .pointer none, .pointer none => true
  | .slice none 0 0, .slice none 0 0 => true
  | .nilIface, .nilIface => true
  | .nilFunc, .nilFunc => true
  | .tuple a, .tuple b => Nat.beq a.size 0 && Nat.beq b.size 0
  | _, _ => false
noncomputable def beqV (x y : Value) : Bool :=
  valK x (fun k a => intK y (fun k' b => andX (Nat.beq (kIdx k) (kIdx k')) (ieqX a b)) false) (fun a => boolK y (fun b => ifX a b (ifX b false true)) false) (fun a => strK y (fun b => beqB (byB a) (byB b)) false) (beqO x y)
theorem beqO_eq {x y : Value} (h : beqO x y = true) : x = y := by
  unfold beqO at h
  split at h <;> first | rfl | skip
  · rename_i a b
    rw [Bool.and_eq_true] at h
    rw [Array.eq_empty_of_size_eq_zero (beq_nat h.1), Array.eq_empty_of_size_eq_zero (beq_nat h.2)]
  · cases h
theorem beqV_eq {x y : Value} (h : beqV x y = true) : x = y := by
  cases x with
  | int k a =>
    cases y with
    | int k' b =>
      obtain ⟨h1, h2⟩ := andX_true (show andX (Nat.beq (kIdx k) (kIdx k')) (ieqX a b) = true from h)
      have := kIdx_inj h1
      rw [ieqX_eq, decide_eq_true_eq] at h2
      rw [this, h2]
    | _ => exact absurd h (by intro e; cases e)
  | bool a =>
    cases y with
    | bool b =>
      have h : ifX a b (ifX b false true) = true := h
      cases a <;> cases b <;> first | rfl | exact absurd h (by intro e; cases e)
    | _ => exact absurd h (by intro e; cases e)
  | string a =>
    cases y with
    | string b =>
      have h : beqB (byB a) (byB b) = true := h
      rw [beqB_eq, beq_iff_eq] at h
      have : a = b := by
        obtain ⟨⟨x⟩⟩ := a
        obtain ⟨⟨y⟩⟩ := b
        have h : x = y := h
        rw [h]
      rw [this]
    | _ => exact absurd h (by intro e; cases e)
  | _ => exact beqO_eq h

section
abbrev M1 : AV → Type := fun _ => AV → Bool
abbrev M2 : List (List AV) → Type := fun _ => List (List AV) → Bool
abbrev M3 : List AV → Type := fun _ => List AV → Bool
noncomputable def m_lit (x : Value) : AV → Bool := fun w => litK w (beqV x) false
noncomputable def m_tree (sz : Nat) (f : List (List AV) → Bool) : AV → Bool := fun w => treeK w (fun sz' rows => andX (Nat.beq sz sz') (f rows)) false
noncomputable def m_taddr (f : List AV → Bool) : AV → Bool := fun w => taddrK w f false
noncomputable def m_ref (a b c d : Nat) : AV → Bool := fun w => refK w (fun a' b' c' d' => andX (Nat.beq a a') (andX (Nat.beq b b') (andX (Nat.beq c c') (Nat.beq d d')))) false
noncomputable def m_ptr (a b c : Nat) : AV → Bool := fun w => addrK w (fun a' b' c' => andX (Nat.beq a a') (andX (Nat.beq b b') (Nat.beq c c'))) (fun _ => false) false
noncomputable def m_agg (f : List AV → Bool) : AV → Bool := fun w => aggK w f false
noncomputable def m_tup (f : List AV → Bool) : AV → Bool := fun w => tupK w f false
noncomputable def m_fn (g : Nat) (f : List AV → Bool) : AV → Bool := fun w => fnK w (fun g' cs => andX (Nat.beq g g') (f cs)) (fun _ _ => false) false
noncomputable def m_bfn (g : Nat) (f : List AV → Bool) : AV → Bool := fun w => fnK w (fun _ _ => false) (fun g' cs => andX (Nat.beq g g') (f cs)) false
noncomputable def m_ifc (g : Nat) (f : AV → Bool) : AV → Bool := fun w => ifcK w (fun g' v => andX (Nat.beq g g') (f v)) false
noncomputable def m_mref (i : Nat) : AV → Bool := fun w => mrefK w (Nat.beq i) false
noncomputable def m_nil {α : Type} : List α → Bool := fun l => @List.rec α (fun _ => Bool) true (fun _ _ _ => false) l
noncomputable def m_cons {α : Type} (f : α → Bool) (g : List α → Bool) : List α → Bool := fun l => @List.rec α (fun _ => Bool) false (fun a r _ => andX (f a) (g r)) l
noncomputable def beqAV (v : AV) : AV → Bool :=
  @AV.rec M1 M2 M3 (fun _ => false) m_lit (fun sz _ f => m_tree sz f) (fun _ f => m_taddr f) m_ref m_ptr (fun _ f => m_agg f) (fun _ f => m_tup f) (fun g _ f => m_fn g f) (fun g _ f => m_bfn g f) (fun g _ f => m_ifc g f) m_mref
    m_nil (fun _ _ f g => m_cons f g) m_nil (fun _ _ f g => m_cons f g) v
noncomputable def beqAL (v : List AV) : List AV → Bool :=
  @AV.rec_2 M1 M2 M3 (fun _ => false) m_lit (fun sz _ f => m_tree sz f) (fun _ f => m_taddr f) m_ref m_ptr (fun _ f => m_agg f) (fun _ f => m_tup f) (fun g _ f => m_fn g f) (fun g _ f => m_bfn g f) (fun g _ f => m_ifc g f) m_mref
    m_nil (fun _ _ f g => m_cons f g) m_nil (fun _ _ f g => m_cons f g) v
noncomputable def beqALL (v : List (List AV)) : List (List AV) → Bool :=
  @AV.rec_1 M1 M2 M3 (fun _ => false) m_lit (fun sz _ f => m_tree sz f) (fun _ f => m_taddr f) m_ref m_ptr (fun _ f => m_agg f) (fun _ f => m_tup f) (fun g _ f => m_fn g f) (fun g _ f => m_bfn g f) (fun g _ f => m_ifc g f) m_mref
    m_nil (fun _ _ f g => m_cons f g) m_nil (fun _ _ f g => m_cons f g) v
theorem m_nil_eq {α : Type} {l : List α} (h : m_nil l = true) : [] = l := by
  cases l with
  | nil => rfl
  | cons a r => exact absurd h (by intro e; cases e)
theorem m_cons_eq {α : Type} {f : α → Bool} {g : List α → Bool} {a : α} {r l : List α} (hf : ∀ b, f b = true → a = b) (hg : ∀ m, g m = true → r = m) (h : m_cons f g l = true) : a :: r = l := by
  cases l with
  | nil => exact absurd h (by intro e; cases e)
  | cons b t =>
    obtain ⟨h1, h2⟩ := andX_true (show andX (f b) (g t) = true from h)
    rw [hf b h1, hg t h2]
theorem beqAV_eq {v w : AV} (h : beqAV v w = true) : v = w := by
  revert h
  refine @AV.rec (fun v => ∀ w, beqAV v w = true → v = w) (fun l => ∀ m, beqALL l m = true → l = m) (fun l => ∀ m, beqAL l m = true → l = m) ?_ ?_ ?_ ?_ ?_ ?_ ?_ ?_ ?_ ?_ ?_ ?_ ?_ ?_ ?_ ?_ v w
  · intro w h; exact absurd h (by intro e; cases e)
  · intro x w h
    cases w <;> first | exact absurd h (by intro e; cases e) | exact congrArg AV.lit (beqV_eq h)
  · intro sz rows ih w h
    cases w with
    | tree sz' rows' =>
      obtain ⟨h1, h2⟩ := andX_true (show andX (Nat.beq sz sz') (beqALL rows rows') = true from h)
      rw [beq_nat h1, ih _ h2]
    | _ => exact absurd h (by intro e; cases e)
  · intro cs ih w h
    cases w with
    | taddr ds => rw [ih ds h]
    | _ => exact absurd h (by intro e; cases e)
  · intro a b c d w h
    cases w with
    | ref a' b' c' d' =>
      obtain ⟨h1, h2⟩ := andX_true (show andX (Nat.beq a a') _ = true from h)
      obtain ⟨h2, h3⟩ := andX_true h2
      obtain ⟨h3, h4⟩ := andX_true h3
      rw [beq_nat h1, beq_nat h2, beq_nat h3, beq_nat h4]
    | _ => exact absurd h (by intro e; cases e)
  · intro a b c w h
    cases w with
    | ptr a' b' c' =>
      obtain ⟨h1, h2⟩ := andX_true (show andX (Nat.beq a a') _ = true from h)
      obtain ⟨h2, h3⟩ := andX_true h2
      rw [beq_nat h1, beq_nat h2, beq_nat h3]
    | _ => exact absurd h (by intro e; cases e)
  · intro cs ih w h
    cases w with
    | agg ds => rw [ih ds h]
    | _ => exact absurd h (by intro e; cases e)
  · intro cs ih w h
    cases w with
    | tup ds => rw [ih ds h]
    | _ => exact absurd h (by intro e; cases e)
  · intro f cs ih w h
    cases w with
    | fn f' ds =>
      obtain ⟨h1, h2⟩ := andX_true (show andX (Nat.beq f f') (beqAL cs ds) = true from h)
      rw [show f = f' from beq_nat h1, ih _ h2]
    | _ => exact absurd h (by intro e; cases e)
  · intro f cs ih w h
    cases w with
    | bfn f' ds =>
      obtain ⟨h1, h2⟩ := andX_true (show andX (Nat.beq f f') (beqAL cs ds) = true from h)
      rw [show f = f' from beq_nat h1, ih _ h2]
    | _ => exact absurd h (by intro e; cases e)
  · intro t v ih w h
    cases w with
    | ifc t' v' =>
      obtain ⟨h1, h2⟩ := andX_true (show andX (Nat.beq t t') (beqAV v v') = true from h)
      rw [show t = t' from beq_nat h1, ih _ h2]
    | _ => exact absurd h (by intro e; cases e)
  · intro i w h
    cases w with
    | mref i' => rw [beq_nat (show Nat.beq i i' = true from h)]
    | _ => exact absurd h (by intro e; cases e)
  · intro m h; exact m_nil_eq h
  · intro a r ih1 ih2 m h; exact m_cons_eq (fun b hb => ih1 b hb) (fun t ht => ih2 t ht) h
  · intro m h; exact m_nil_eq h
  · intro a r ih1 ih2 m h; exact m_cons_eq (fun b hb => ih1 b hb) (fun t ht => ih2 t ht) h
end
end Go.Am
end
section
/- REGIONS IN EVERY ORDER: what is looked at beforehand -/
namespace Go.Am
variable {P : Program} {N n0 : Nat}

/-- what an operation waits for -/
def preds (o : Oper) : List Nat := o.after.toList.filterMap fun e => bif Region.binds .any e then some e.on else none
theorem mem_preds {o : Oper} {d : Nat} : d ∈ preds o ↔ ∃ e ∈ o.after, Region.binds .any e = true ∧ e.on = d := by
  unfold preds
  rw [List.mem_filterMap]
  constructor
  · rintro ⟨e, he, h⟩
    refine ⟨e, by simpa using he, ?_⟩
    cases hb : Region.binds .any e with
    | true => rw [hb] at h; simp at h; exact ⟨rfl, h⟩
    | false => rw [hb] at h; simp at h
  · rintro ⟨e, he, hb, rfl⟩
    exact ⟨e, by simpa using he, by rw [hb]; rfl⟩

def orM (ms : List Nat) : List Nat → Nat
  | [] => 0
  | d :: r => Nat.lor (Nat.lor (Nat.shiftLeft 1 d) (ms.getD d 0)) (orM ms r)
theorem orM_bit {ms : List Nat} {i : Nat} : ∀ {ps : List Nat}, Nat.testBit (orM ms ps) i = true → ∃ d ∈ ps, i = d ∨ Nat.testBit (ms.getD d 0) i = true
  | [], h => by simp [orM] at h
  | d :: r, h => by
    have h : Nat.testBit (((1 <<< d) ||| (ms.getD d 0)) ||| orM ms r) i = true := h
    rw [Nat.testBit_or, Nat.testBit_or, Bool.or_eq_true, Bool.or_eq_true] at h
    rcases h with (h | h) | h
    · refine ⟨d, by simp, .inl ?_⟩
      rw [Nat.testBit_shiftLeft] at h
      simp only [Bool.and_eq_true, decide_eq_true_eq, ge_iff_le] at h
      obtain ⟨h1, h2⟩ := h
      have : i - d = 0 := by
        cases hx : i - d with
        | zero => rfl
        | succ m => rw [hx] at h2; simp [Nat.testBit_succ] at h2
      omega
    · exact ⟨d, by simp, .inr h⟩
    · obtain ⟨d', h1, h2⟩ := orM_bit h
      exact ⟨d', by simp [h1], h2⟩

def masksG : List Oper → List Nat → List Nat
  | [], ms => ms
  | o :: r, ms => masksG r (ms ++ [orM ms (preds o)])
def masks (ops : Array Oper) : List Nat := masksG ops.toList []

/-- who writes a slot -/
def fnd (t : Nat) : List Oper → Nat → Option Nat
  | [], _ => none
  | o :: r, i =>
    match o.dst with
    | some d => bif Nat.beq d t then some i else fnd t r (i + 1)
    | none => fnd t r (i + 1)
theorem fnd_none {t : Nat} : ∀ {l : List Oper} {i : Nat}, fnd t l i = none → ∀ o ∈ l, o.dst ≠ some t
  | [], _, _, o, ho => by simp at ho
  | p :: r, i, h, o, ho => by
    unfold fnd at h
    cases hd : p.dst with
    | none =>
      simp only [hd] at h
      rcases List.mem_cons.1 ho with rfl | ho
      · rw [hd]; simp
      · exact fnd_none h o ho
    | some d =>
      simp only [hd] at h
      cases hb : Nat.beq d t with
      | true => rw [hb] at h; simp at h
      | false =>
        rw [hb] at h
        rcases List.mem_cons.1 ho with rfl | ho
        · rw [hd]
          intro e
          simp only [Option.some.injEq] at e
          subst e
          simp at hb
        · exact fnd_none h o ho
theorem fnd_some {t : Nat} : ∀ {l : List Oper} {i k : Nat}, fnd t l i = some k → i ≤ k ∧ ∃ o, l[k - i]? = some o ∧ o.dst = some t
  | [], _, _, h => by simp [fnd] at h
  | p :: r, i, k, h => by
    unfold fnd at h
    have rec1 : fnd t r (i + 1) = some k → i ≤ k ∧ ∃ o, (p :: r)[k - i]? = some o ∧ o.dst = some t := fun h => by
      obtain ⟨h1, o, h2, h3⟩ := fnd_some h
      have : k - i = (k - (i + 1)) + 1 := by omega
      exact ⟨by omega, o, by rw [this, List.getElem?_cons_succ]; exact h2, h3⟩
    cases hd : p.dst with
    | none => simp only [hd] at h; exact rec1 h
    | some d =>
      simp only [hd] at h
      cases hb : Nat.beq d t with
      | false => rw [hb] at h; exact rec1 h
      | true =>
        rw [hb] at h
        simp only [cond_true, Option.some.injEq] at h
        subst h
        refine ⟨Nat.le_refl _, p, by simp, ?_⟩
        rw [hd, Nat.eq_of_beq_eq_true hb]

/-- operations that may turn the objects -/
def effs (T : Env P) : List Oper → Nat → List Nat
  | [], _ => []
  | o :: r, k => bif rdB T o.op then effs T r (k + 1) else k :: effs T r (k + 1)
def chainB (ms : List Nat) : List Nat → Bool
  | [] => true
  | a :: r => (match r with
    | [] => true
    | b :: _ => Nat.testBit (ms.getD b 0) a) && chainB ms r
def oeq (a : Option Nat) (b : Nat) : Bool :=
  match a with
  | some x => Nat.beq x b
  | none => false
def lookB (ops : Array Oper) (ms : List Nat) (k : Nat) : List Tmp → Bool
  | [] => true
  | t :: r => (match fnd t ops.toList 0 with
    | none => true
    | some i => Nat.testBit (ms.getD k 0) i || Nat.testBit (ms.getD i 0) k) && lookB ops ms k r
def staK (ops : Array Oper) (ms : List Nat) : List Oper → Nat → Bool
  | [], _ => true
  | o :: r, k => ((preds o).all fun d => Nat.blt d k) && (Nat.beq (ms.getD k 0) (orM ms (preds o)) && ((match o.dst with
    | none => true
    | some d => oeq (fnd d ops.toList 0) k) && (lookB ops ms k (o.looksAt ops) && staK ops ms r (k + 1))))
def statM (T : Env P) (ops : Array Oper) (ms : List Nat) : Bool := staK ops ms ops.toList 0 && chainB ms (effs T ops.toList 0)
def statB (T : Env P) (ops : Array Oper) : Bool := statM T ops (masks ops)

theorem lookB_spec {ops : Array Oper} {ms : List Nat} {k : Nat} : ∀ {l : List Tmp}, lookB ops ms k l = true → ∀ t ∈ l, ∀ i, fnd t ops.toList 0 = some i → Nat.testBit (ms.getD k 0) i = true ∨ Nat.testBit (ms.getD i 0) k = true
  | [], _, t, ht => by simp at ht
  | u :: r, h, t, ht => by
    intro i hi
    simp only [lookB, Bool.and_eq_true] at h
    rcases List.mem_cons.1 ht with rfl | ht
    · have := h.1
      rw [hi] at this
      simpa using this
    · exact lookB_spec h.2 t ht i hi

structure StaOK (ops : Array Oper) (ms : List Nat) (k : Nat) (o : Oper) : Prop where
  lt : ∀ d ∈ preds o, d < k
  mq : ms.getD k 0 = orM ms (preds o)
  un : ∀ d, o.dst = some d → fnd d ops.toList 0 = some k
  lk : ∀ t ∈ o.looksAt ops, ∀ i, fnd t ops.toList 0 = some i → Nat.testBit (ms.getD k 0) i = true ∨ Nat.testBit (ms.getD i 0) k = true

theorem staK_spec {ops : Array Oper} {ms : List Nat} : ∀ {l : List Oper} {k0 : Nat}, staK ops ms l k0 = true → ∀ j o, l[j]? = some o → StaOK ops ms (k0 + j) o
  | [], _, _, j, o, h => by simp at h
  | p :: r, k0, h, j, o, ho => by
    simp only [staK, Bool.and_eq_true] at h
    obtain ⟨h1, h2, h3, h4, h5⟩ := h
    cases j with
    | zero =>
      simp only [List.getElem?_cons_zero, Option.some.injEq] at ho
      subst ho
      refine ⟨fun d hd => ?_, Nat.eq_of_beq_eq_true h2, fun d hd => ?_, fun t ht i hi => lookB_spec h4 t ht i hi⟩
      · rw [List.all_eq_true] at h1
        have := h1 d hd
        simpa using this
      · rw [hd] at h3
        simp only [oeq] at h3
        cases hf : fnd d ops.toList 0 with
        | none => rw [hf] at h3; cases h3
        | some x => rw [hf] at h3; rw [Nat.eq_of_beq_eq_true h3]; rfl
    | succ j =>
      have := staK_spec h5 j o (by simpa using ho)
      have e : k0 + 1 + j = k0 + (j + 1) := by omega
      rwa [e] at this

theorem effs_mem {T : Env P} {x : Nat} : ∀ {l : List Oper} {k0 : Nat}, x ∈ effs T l k0 ↔ ∃ o, k0 ≤ x ∧ l[x - k0]? = some o ∧ rdB T o.op = false
  | [], k0 => by simp [effs]
  | p :: r, k0 => by
    have ih := effs_mem (T := T) (x := x) (l := r) (k0 := k0 + 1)
    have key : (∃ o, k0 ≤ x ∧ (p :: r)[x - k0]? = some o ∧ rdB T o.op = false) ↔ (x = k0 ∧ rdB T p.op = false) ∨ ∃ o, k0 + 1 ≤ x ∧ r[x - (k0 + 1)]? = some o ∧ rdB T o.op = false := by
      constructor
      · rintro ⟨o, h1, h2, h3⟩
        rcases Nat.eq_or_lt_of_le h1 with e | h1
        · subst e
          simp only [Nat.sub_self, List.getElem?_cons_zero, Option.some.injEq] at h2
          subst h2
          exact .inl ⟨rfl, h3⟩
        · have : x - k0 = (x - (k0 + 1)) + 1 := by omega
          rw [this, List.getElem?_cons_succ] at h2
          exact .inr ⟨o, h1, h2, h3⟩
      · rintro (⟨rfl, h⟩ | ⟨o, h1, h2, h3⟩)
        · exact ⟨p, Nat.le_refl _, by simp, h⟩
        · have : x - k0 = (x - (k0 + 1)) + 1 := by omega
          exact ⟨o, by omega, by rw [this, List.getElem?_cons_succ]; exact h2, h3⟩
    rw [key, ← ih]
    have e1 : effs T (p :: r) k0 = bif rdB T p.op then effs T r (k0 + 1) else k0 :: effs T r (k0 + 1) := rfl
    rw [e1]
    cases rdB T p.op with
    | true => simp
    | false => simp

theorem chainB_spec {ms : List Nat} : ∀ {l : List Nat}, chainB ms l = true → ∀ (j a b : Nat), l[j]? = some a → l[j + 1]? = some b → Nat.testBit (ms.getD b 0) a = true
  | [], _, j, a, b, h, _ => by simp at h
  | [x], _, j, a, b, _, h => by simp at h
  | x :: y :: r, h, j, a, b, ha, hb => by
    have h : (Nat.testBit (ms.getD y 0) x && chainB ms (y :: r)) = true := by rw [chainB] at h; exact h
    rw [Bool.and_eq_true] at h
    cases j with
    | zero =>
      simp only [List.getElem?_cons_zero, Option.some.injEq, Nat.zero_add, List.getElem?_cons_succ] at ha hb
      subst ha; subst hb
      exact h.1
    | succ j => exact chainB_spec h.2 j a b (by simpa using ha) (by simpa using hb)
end Go.Am
end
