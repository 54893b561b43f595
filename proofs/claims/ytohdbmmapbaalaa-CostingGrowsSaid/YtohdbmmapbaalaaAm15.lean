import Derived.Test.YtohdbmmapbaalaaAm14
namespace Go.Am
variable {P : Program}

/-- kinds of operations: 0 the slots alone; 1 they look at what objects are there; 2 they look into them; 3 they add one; 4 they write into one; 5 all others -/
def cls : Op → Nat
  | .move _ | .assign _ | .pick .. | .binOp .. | .unOp .. | .makeFunc .. | .field .. | .extract .. | .build .. => 0
  | .call { callee := .builtin .min, .. } | .call { callee := .builtin .max, .. } => 0
  | .nilCheck _ | .fieldAddr .. | .indexAddr .. | .slice .. => 1
  | .call { callee := .builtin .len, .. } => 1
  | .load .. => 2
  | .alloc _ | .box .. | .makeSlice .. | .buildSlice .. => 3
  | .store .. => 4
  | _ => 5

def sameK : Ob → Ob → Prop
  | .var _, .var _ => True
  | .arr s _, .arr s' _ => s = s'
  | .gone, .gone => True
  | _, _ => False

theorem sameK_refl (o : Ob) : sameK o o := by cases o <;> simp [sameK]
theorem sameK_symm {a b : Ob} (h : sameK a b) : sameK b a := by cases a <;> cases b <;> simp_all [sameK]

/-- what an operation of a kind does to the objects -/
def Eff (c : Nat) (a b : List Ob) : Prop :=
  if c ≤ 2 then b = a
  else if c = 3 then ∀ (id : Nat), id < a.length → b[id]? = a[id]?
  else if c = 4 then b.length = a.length ∧ ∀ (id : Nat) o o', a[id]? = some o → b[id]? = some o' → sameK o o'
  else True

theorem eff_id (c : Nat) (h : c ≤ 2) (a : List Ob) : Eff c a a := by simp [Eff, h]

theorem eff_push (a : List Ob) (o : Ob) : Eff 3 a (a ++ [o]) := by
  simp only [Eff]; intro id h; exact List.getElem?_append_left h

theorem eff_set (σ : St) (id r : Nat) (row : List AV) : Eff 4 σ.objs (setRowOf σ id r row).objs := by
  simp only [Eff]
  rw [if_neg (by decide), if_neg (by decide), if_pos trivial]
  have key : ∀ (x y : Ob), σ.objs[id]? = some x → sameK x y → (σ.objs.set id y).length = σ.objs.length ∧ ∀ (i : Nat) o o', σ.objs[i]? = some o → (σ.objs.set id y)[i]? = some o' → sameK o o' := by
    intro x y hx hxy
    refine ⟨by simp, fun i o o' ho ho' => ?_⟩
    rw [List.getElem?_set] at ho'
    split at ho'
    · rename_i e; subst e
      split at ho'
      · simp at ho'; subst ho'; rw [hx] at ho; simp at ho; subst ho; exact hxy
      · simp at ho'
    · rw [ho] at ho'; simp at ho'; subst ho'; exact sameK_refl o
  unfold setRowOf
  split
  · rename_i cells h; exact key _ _ h trivial
  · rename_i sz rows h; exact key _ _ h rfl
  · exact ⟨rfl, fun i o o' ho ho' => by rw [ho] at ho'; simp at ho'; subst ho'; exact sameK_refl o⟩

/-- what an operation does hangs on its operands and on the objects alone -/
theorem opW_local {o : Oper} {σ : St} {K : St → Prop} (hW : opW P o σ K) :
    ∃ v os, Eff (cls o.op) σ.objs os ∧ K ((⟨σ.env, os⟩ : St).put o.dst v) ∧ ∀ (e2 : Nat → AV) (K2 : St → Prop), (∀ x ∈ o.op.operands.toList, ev ⟨e2, σ.objs⟩ x = ev σ x) → K2 ((⟨e2, os⟩ : St).put o.dst v) → opW P o ⟨e2, σ.objs⟩ K2 := by
  obtain ⟨dst, op, type, pos, after, guard⟩ := o
  unfold opW at hW ⊢
  cases op
  case move x => exact ⟨_, _, (by first | exact eff_id _ (by simp [cls]) _ | exact eff_push _ _ | exact eff_set _ _ _ _ | trivial), hW, fun e2 K2 hx hK => by simp only [hx x (by simp [Op.operands])]; exact hK⟩
  case assign x => exact ⟨_, _, (by first | exact eff_id _ (by simp [cls]) _ | exact eff_push _ _ | exact eff_set _ _ _ _ | trivial), hW, fun e2 K2 hx hK => by simp only [hx x (by simp [Op.operands])]; exact hK⟩
  case pick c x y =>
    simp only at hW
    split at hW
    · rename_i t he
      exact ⟨_, _, (by first | exact eff_id _ (by simp [cls]) _ | exact eff_push _ _ | exact eff_set _ _ _ _ | trivial), hW, fun e2 K2 hx hK => by simp only [hx c (by simp [Op.operands]), hx x (by simp [Op.operands]), hx y (by simp [Op.operands]), he]; exact hK⟩
    · exact hW.elim
  case alloc e =>
    simp only at hW
    obtain ⟨hk, hW⟩ := hW
    split at hW
    · rename_i z hz
      exact ⟨_, _, (by first | exact eff_id _ (by simp [cls]) _ | exact eff_push _ _ | exact eff_set _ _ _ _ | trivial), hW, fun e2 K2 hx hK => by simp only [hz]; exact ⟨hk, hK⟩⟩
    · exact hW.elim
  case box e x =>
    simp only at hW
    exact ⟨_, _, (by first | exact eff_id _ (by simp [cls]) _ | exact eff_push _ _ | exact eff_set _ _ _ _ | trivial), hW.2, fun e2 K2 hx hK => by simp only [hx x (by simp [Op.operands])]; exact ⟨hW.1, hK⟩⟩
  case build t parts =>
    simp only at hW
    split at hW
    · rename_i z hk hz
      split at hW
      · rename_i cs hf
        refine ⟨_, _, (by first | exact eff_id _ (by simp [cls]) _ | exact eff_push _ _ | exact eff_set _ _ _ _ | trivial), hW.2, fun e2 K2 hx hK => ?_⟩
        have hp : (parts.toList.map fun p => (p.1, ev ⟨e2, σ.objs⟩ p.2)) = (parts.toList.map fun p => (p.1, ev σ p.2)) := List.map_congr_left fun p hp => by
          rw [hx p.2 (by simp only [Op.operands, List.mem_map]; exact ⟨p, by simpa using hp, rfl⟩)]
        have hall : (parts.toList.all fun p => (cellsOf (ev ⟨e2, σ.objs⟩ p.2)).all scal) = (parts.toList.all fun p => (cellsOf (ev σ p.2)).all scal) := by
          rw [Bool.eq_iff_iff]
          simp only [List.all_eq_true]
          exact ⟨fun h p hp => by rw [← hx p.2 (by simp only [Op.operands, List.mem_map]; exact ⟨p, by simpa using hp, rfl⟩)]; exact h p hp,
            fun h p hp => by rw [hx p.2 (by simp only [Op.operands, List.mem_map]; exact ⟨p, by simpa using hp, rfl⟩)]; exact h p hp⟩
        simp only [hk, hz, hp, hf, hall]
        exact ⟨hW.1, hK⟩
      · exact hW.elim
    · exact hW.elim
  case buildSlice t len parts =>
    simp only at hW
    split at hW
    · rename_i z hk hz
      split at hW
      · rename_i cs hf
        refine ⟨_, _, (by first | exact eff_id _ (by simp [cls]) _ | exact eff_push _ _ | exact eff_set _ _ _ _ | trivial), hW.2, fun e2 K2 hx hK => ?_⟩
        have hp : (parts.toList.map fun p => (p.1, ev ⟨e2, σ.objs⟩ p.2)) = (parts.toList.map fun p => (p.1, ev σ p.2)) := List.map_congr_left fun p hp => by
          rw [hx p.2 (by simp only [Op.operands, List.mem_map]; exact ⟨p, by simpa using hp, rfl⟩)]
        have hall : (parts.toList.all fun p => (cellsOf (ev ⟨e2, σ.objs⟩ p.2)).all scal) = (parts.toList.all fun p => (cellsOf (ev σ p.2)).all scal) := by
          rw [Bool.eq_iff_iff]
          simp only [List.all_eq_true]
          exact ⟨fun h p hp => by rw [← hx p.2 (by simp only [Op.operands, List.mem_map]; exact ⟨p, by simpa using hp, rfl⟩)]; exact h p hp,
            fun h p hp => by rw [hx p.2 (by simp only [Op.operands, List.mem_map]; exact ⟨p, by simpa using hp, rfl⟩)]; exact h p hp⟩
        simp only [hk, hz, hp, hf, hall]
        exact ⟨hW.1, hK⟩
      · exact hW.elim
    · exact hW.elim
  case load t x =>
    simp only at hW
    obtain ⟨hk, hW⟩ := hW
    have lin : ∀ (cells : List AV) (c : Nat) (K : AV → Prop), loadA (ty P t) cells c K → ∃ v, K v ∧ ∀ K2 : AV → Prop, K2 v → loadA (ty P t) cells c K2 := by
      intro cells c K h
      unfold loadA at h ⊢
      split at h
      · rename_i hag; exact ⟨_, h.2, fun K2 hK => by rw [if_pos hag]; exact ⟨h.1, hK⟩⟩
      · rename_i hag
        split at h
        · rename_i v hv; exact ⟨_, h, fun K2 hK => by rw [if_neg hag]; exact hK⟩
        · exact h.elim
    split at hW
    · rename_i id r c he
      split at hW
      · rename_i row hrow
        obtain ⟨v, hK, hl⟩ := lin _ _ _ hW
        refine ⟨v, σ.objs, (by first | exact eff_id _ (by simp [cls]) _ | exact eff_push _ _ | exact eff_set _ _ _ _ | trivial), hK, fun e2 K2 hx hK2 => ?_⟩
        have hr2 : rowOf ⟨e2, σ.objs⟩ id r = some row := hrow
        simp only [hx x (by simp [Op.operands]), he, hr2]
        exact ⟨hk, hl _ hK2⟩
      · exact hW.elim
    · rename_i cells he
      obtain ⟨v, hK, hl⟩ := lin _ _ _ hW
      refine ⟨v, σ.objs, (by first | exact eff_id _ (by simp [cls]) _ | exact eff_push _ _ | exact eff_set _ _ _ _ | trivial), hK, fun e2 K2 hx hK2 => ?_⟩
      simp only [hx x (by simp [Op.operands]), he]
      exact ⟨hk, hl _ hK2⟩
    · exact hW.elim
  case store t x y =>
    simp only at hW
    obtain ⟨hk, hW⟩ := hW
    split at hW
    · rename_i id r c he
      split at hW
      · rename_i row hrow
        have henv : ∀ (s : St) (id r : Nat) (row : List AV), setRowOf s id r row = ⟨s.env, (setRowOf s id r row).objs⟩ := by
          intro s id r row; unfold setRowOf; split <;> rfl
        have hobj : ∀ (e : Nat → AV) (id r : Nat) (row : List AV), (setRowOf ⟨e, σ.objs⟩ id r row).objs = (setRowOf σ id r row).objs := by
          intro e id r row; unfold setRowOf; simp only; split <;> rfl
        refine ⟨.undef, (setRowOf σ id r (setCells row c (cellsOf (ev σ y)))).objs, eff_set _ _ _ _, ?_, fun e2 K2 hx hK2 => ?_⟩
        · have := hW.2; rw [henv] at this; exact this
        · have hr2 : rowOf ⟨e2, σ.objs⟩ id r = some row := hrow
          simp only [hx x (by simp [Op.operands]), hx y (by simp [Op.operands]), he, hr2]
          refine ⟨hk, hW.1, ?_⟩
          rw [henv, hobj]
          exact hK2
      · exact hW.elim
    · exact hW.elim
  case nilCheck x =>
    simp only at hW
    split at hW
    · rename_i id r c he
      cases ho : σ.objs[id]? with
      | none => simp [ho] at hW
      | some ob =>
        have hl : ob ≠ .gone ∧ K (σ.put dst (.ptr id r c)) := by cases ob <;> simp [ho] at hW ⊢ <;> exact hW
        refine ⟨_, _, (by first | exact eff_id _ (by simp [cls]) _ | exact eff_push _ _ | exact eff_set _ _ _ _ | trivial), hl.2, fun e2 K2 hx hK2 => ?_⟩
        simp only [hx x (by simp [Op.operands]), he, ho]
        cases ob
        · exact absurd rfl hl.1
        · exact hK2
        · exact hK2
    · rename_i cells he
      exact ⟨_, _, (by first | exact eff_id _ (by simp [cls]) _ | exact eff_push _ _ | exact eff_set _ _ _ _ | trivial), hW, fun e2 K2 hx hK2 => by simp only [hx x (by simp [Op.operands]), he]; exact hK2⟩
    · exact hW.elim
  case binOp op t x y yt =>
    simp only at hW
    split at hW
    · rename_i k p k' q he hf
      obtain ⟨hkk, hW⟩ := hW
      have lin : ∃ v, K (σ.put dst (.lit v)) ∧ ∀ K2 : Value → Prop, K2 v → intW op k p q K2 := by
        unfold intW at hW ⊢
        split at hW <;> first | exact ⟨_, hW.2, fun K2 h => ⟨hW.1, h⟩⟩ | exact ⟨_, hW, fun K2 h => h⟩ | exact hW.elim
      obtain ⟨v, h1, h2⟩ := lin
      refine ⟨.lit v, σ.objs, eff_id _ (by simp [cls]) _, h1, fun e2 K2 hx hK2 => ?_⟩
      simp only [hx x (by simp [Op.operands]), hx y (by simp [Op.operands]), he, hf]
      exact ⟨hkk, h2 _ hK2⟩
    · rename_i p q he hf
      obtain ⟨hk, hW⟩ := hW
      split at hW
      · exact ⟨_, _, (by first | exact eff_id _ (by simp [cls]) _ | exact eff_push _ _ | exact eff_set _ _ _ _ | trivial), hW, fun e2 K2 hx hK2 => by simp only [hx x (by simp [Op.operands]), hx y (by simp [Op.operands]), he, hf]; exact ⟨hk, hK2⟩⟩
      · exact ⟨_, _, (by first | exact eff_id _ (by simp [cls]) _ | exact eff_push _ _ | exact eff_set _ _ _ _ | trivial), hW, fun e2 K2 hx hK2 => by simp only [hx x (by simp [Op.operands]), hx y (by simp [Op.operands]), he, hf]; exact ⟨hk, hK2⟩⟩
      · exact hW.elim
    · rename_i sz rows he hf
      obtain ⟨hk, hW⟩ := hW
      split at hW
      · exact ⟨_, _, (by first | exact eff_id _ (by simp [cls]) _ | exact eff_push _ _ | exact eff_set _ _ _ _ | trivial), hW, fun e2 K2 hx hK2 => by simp only [hx x (by simp [Op.operands]), hx y (by simp [Op.operands]), he, hf]; exact ⟨hk, hK2⟩⟩
      · exact ⟨_, _, (by first | exact eff_id _ (by simp [cls]) _ | exact eff_push _ _ | exact eff_set _ _ _ _ | trivial), hW, fun e2 K2 hx hK2 => by simp only [hx x (by simp [Op.operands]), hx y (by simp [Op.operands]), he, hf]; exact ⟨hk, hK2⟩⟩
      · exact hW.elim
    · exact hW.elim
  case unOp op t x =>
    simp only at hW
    split at hW
    · rename_i b he
      exact ⟨_, _, (by first | exact eff_id _ (by simp [cls]) _ | exact eff_push _ _ | exact eff_set _ _ _ _ | trivial), hW, fun e2 K2 hx hK2 => by simp only [hx x (by simp [Op.operands]), he]; exact hK2⟩
    · rename_i k n he
      exact ⟨_, _, (by first | exact eff_id _ (by simp [cls]) _ | exact eff_push _ _ | exact eff_set _ _ _ _ | trivial), hW.2, fun e2 K2 hx hK2 => by simp only [hx x (by simp [Op.operands]), he]; exact ⟨hW.1, hK2⟩⟩
    · exact hW.elim
  case makeFunc fn first captured =>
    simp only at hW
    split at hW
    · rename_i f
      obtain ⟨hf, hK⟩ := hW
      refine ⟨_, _, (by first | exact eff_id _ (by simp [cls]) _ | exact eff_push _ _ | exact eff_set _ _ _ _ | trivial), hK, fun e2 K2 hx hK2 => ?_⟩
      have hc : captured.toList.map (ev ⟨e2, σ.objs⟩) = captured.toList.map (ev σ) := List.map_congr_left fun y hy => hx y (by simp only [Op.operands, Array.toList_append, List.mem_append]; exact .inr hy)
      simp only [hc]
      exact ⟨hf, hK2⟩
    · exact hW.elim
  case makeSlice t l c =>
    simp only at hW
    split at hW
    · rename_i z k n k' n' hk hz he hf
      exact ⟨_, _, (by first | exact eff_id _ (by simp [cls]) _ | exact eff_push _ _ | exact eff_set _ _ _ _ | trivial), hW.2.1, fun e2 K2 hx hK2 => by simp only [hx l (by simp [Op.operands]), hx c (by simp [Op.operands]), hk, hz, he, hf]; exact ⟨hW.1, hK2, hW.2.2⟩⟩
    · exact hW.elim
  case slice t x lo hi mx =>
    simp only at hW
    obtain ⟨hk, hke, rfl, hW⟩ := hW
    have ops : ∀ (e2 : Nat → AV), (∀ y ∈ (Op.slice t x lo hi none).operands.toList, ev ⟨e2, σ.objs⟩ y = ev σ y) → ev ⟨e2, σ.objs⟩ x = ev σ x ∧ lo.map (ev ⟨e2, σ.objs⟩) = lo.map (ev σ) ∧ hi.map (ev ⟨e2, σ.objs⟩) = hi.map (ev σ) := by
      intro e2 hx
      refine ⟨hx x (by simp [Op.operands]), ?_, ?_⟩
      · cases lo with
        | none => rfl
        | some y => simp only [Option.map_some]; rw [hx y (by simp [Op.operands])]
      · cases hi with
        | none => rfl
        | some y => simp only [Option.map_some]; rw [hx y (by simp [Op.operands])]
    split at hW
    · rename_i id sz off len he
      split at hW
      · rename_i sz' rows ho
        obtain ⟨hs1, hs2, hW⟩ := hW
        split at hW
        · rename_i g1 g2
          refine ⟨_, _, (by first | exact eff_id _ (by simp [cls]) _ | exact eff_push _ _ | exact eff_set _ _ _ _ | trivial), hW, fun e2 K2 hx hK2 => ?_⟩
          obtain ⟨a1, a2, a3⟩ := ops e2 hx
          simp only [a1, a2, a3, he, ho, g1, g2]
          exact ⟨hk, hke, trivial, hs1, hs2, hK2⟩
        · rename_i g1 g2
          refine ⟨_, _, (by first | exact eff_id _ (by simp [cls]) _ | exact eff_push _ _ | exact eff_set _ _ _ _ | trivial), hW.2, fun e2 K2 hx hK2 => ?_⟩
          obtain ⟨a1, a2, a3⟩ := ops e2 hx
          simp only [a1, a2, a3, he, ho, g1, g2]
          exact ⟨hk, hke, trivial, hs1, hs2, by simpa using hW.1, hK2⟩
        · rename_i g1 g2
          refine ⟨_, _, (by first | exact eff_id _ (by simp [cls]) _ | exact eff_push _ _ | exact eff_set _ _ _ _ | trivial), hW.2, fun e2 K2 hx hK2 => ?_⟩
          obtain ⟨a1, a2, a3⟩ := ops e2 hx
          simp only [a1, a2, a3, he, ho, g1, g2]
          exact ⟨hk, hke, trivial, hs1, hs2, hW.1, hK2⟩
        · rename_i g1 g2
          refine ⟨_, _, (by first | exact eff_id _ (by simp [cls]) _ | exact eff_push _ _ | exact eff_set _ _ _ _ | trivial), hW.2, fun e2 K2 hx hK2 => ?_⟩
          obtain ⟨a1, a2, a3⟩ := ops e2 hx
          simp only [a1, a2, a3, he, ho, g1, g2]
          exact ⟨hk, hke, trivial, hs1, hs2, hW.1, hK2⟩
        · exact hW.elim
      · exact hW.elim
    · rename_i sz rows he
      obtain ⟨hs1, hW⟩ := hW
      split at hW
      · rename_i g1 g2
        refine ⟨_, _, (by first | exact eff_id _ (by simp [cls]) _ | exact eff_push _ _ | exact eff_set _ _ _ _ | trivial), hW, fun e2 K2 hx hK2 => ?_⟩
        obtain ⟨a1, a2, a3⟩ := ops e2 hx
        simp only [a1, a2, a3, he, g1, g2]
        exact ⟨hk, hke, trivial, hs1, hK2⟩
      · rename_i g1 g2
        refine ⟨_, _, (by first | exact eff_id _ (by simp [cls]) _ | exact eff_push _ _ | exact eff_set _ _ _ _ | trivial), hW.2, fun e2 K2 hx hK2 => ?_⟩
        obtain ⟨a1, a2, a3⟩ := ops e2 hx
        simp only [a1, a2, a3, he, g1, g2]
        exact ⟨hk, hke, trivial, hs1, hW.1, hK2⟩
      · rename_i g1 g2
        refine ⟨_, _, (by first | exact eff_id _ (by simp [cls]) _ | exact eff_push _ _ | exact eff_set _ _ _ _ | trivial), hW.2, fun e2 K2 hx hK2 => ?_⟩
        obtain ⟨a1, a2, a3⟩ := ops e2 hx
        simp only [a1, a2, a3, he, g1, g2]
        exact ⟨hk, hke, trivial, hs1, hW.1, hK2⟩
      · rename_i g1 g2
        refine ⟨_, _, (by first | exact eff_id _ (by simp [cls]) _ | exact eff_push _ _ | exact eff_set _ _ _ _ | trivial), hW.2, fun e2 K2 hx hK2 => ?_⟩
        obtain ⟨a1, a2, a3⟩ := ops e2 hx
        simp only [a1, a2, a3, he, g1, g2]
        exact ⟨hk, hke, trivial, hs1, hW.1, hK2⟩
      · exact hW.elim
    · exact hW.elim
  case fieldAddr s x f =>
    simp only at hW
    split at hW
    · rename_i off ft size hk hfl
      obtain ⟨hsz, hW⟩ := hW
      split at hW
      · rename_i id r c he
        cases ho : σ.objs[id]? with
        | none => simp [ho] at hW
        | some ob =>
          have hl : ob ≠ .gone ∧ K (σ.put dst (.ptr id r (c + off))) := by cases ob <;> simp [ho] at hW ⊢ <;> exact hW
          refine ⟨_, _, (by first | exact eff_id _ (by simp [cls]) _ | exact eff_push _ _ | exact eff_set _ _ _ _ | trivial), hl.2, fun e2 K2 hx hK2 => ?_⟩
          simp only [hx x (by simp [Op.operands]), hk, hfl, he, ho]
          cases ob
          · exact absurd rfl hl.1
          · exact ⟨hsz, hK2⟩
          · exact ⟨hsz, hK2⟩
      · rename_i cells he
        exact ⟨_, _, (by first | exact eff_id _ (by simp [cls]) _ | exact eff_push _ _ | exact eff_set _ _ _ _ | trivial), hW, fun e2 K2 hx hK2 => by simp only [hx x (by simp [Op.operands]), hk, hfl, he]; exact ⟨hsz, hK2⟩⟩
      · exact hW.elim
    · exact hW.elim
  case field s x f =>
    simp only at hW
    split at hW
    · rename_i off ft size hk hfl
      obtain ⟨h1, h2, hW⟩ := hW
      split at hW
      · rename_i cs he
        split at hW
        · rename_i hag
          exact ⟨_, _, (by first | exact eff_id _ (by simp [cls]) _ | exact eff_push _ _ | exact eff_set _ _ _ _ | trivial), hW.2, fun e2 K2 hx hK2 => by simp only [hx x (by simp [Op.operands]), hk, hfl, he, hag, if_true]; exact ⟨h1, h2, hW.1, hK2⟩⟩
        · rename_i hag
          split at hW
          · rename_i v hv
            refine ⟨_, _, (by first | exact eff_id _ (by simp [cls]) _ | exact eff_push _ _ | exact eff_set _ _ _ _ | trivial), hW, fun e2 K2 hx hK2 => ?_⟩
            simp only [hx x (by simp [Op.operands]), hk, hfl, he]
            refine ⟨h1, h2, ?_⟩
            rw [if_neg hag]
            simp only [hv]
            exact hK2
          · exact hW.elim
      · exact hW.elim
    · exact hW.elim
  case indexAddr t x i =>
    simp only at hW
    split at hW
    · rename_i id sz off len k n hk he hf
      split at hW
      · rename_i sz' rows ho
        exact ⟨_, _, (by first | exact eff_id _ (by simp [cls]) _ | exact eff_push _ _ | exact eff_set _ _ _ _ | trivial), hW.2, fun e2 K2 hx hK2 => by simp only [hx x (by simp [Op.operands]), hx i (by simp [Op.operands]), hk, he, hf, ho]; exact ⟨hW.1, hK2⟩⟩
      · exact hW.elim
    · rename_i sz rows k n hk he hf
      exact ⟨_, _, (by first | exact eff_id _ (by simp [cls]) _ | exact eff_push _ _ | exact eff_set _ _ _ _ | trivial), hW.2, fun e2 K2 hx hK2 => by simp only [hx x (by simp [Op.operands]), hx i (by simp [Op.operands]), hk, he, hf]; exact ⟨hW.1, hK2⟩⟩
    · rename_i id r c k n hk he hf
      cases ho : σ.objs[id]? with
      | none => simp [ho] at hW
      | some ob =>
        have hl : ob ≠ .gone ∧ ((ty P (ty P t).elem).kind ≠ 99 ∧ 0 ≤ n ∧ n < (ty P t).len) ∧ K (σ.put dst (.ptr id r (c + n.toNat * (ty P (ty P t).elem).size))) := by cases ob <;> simp [ho] at hW ⊢ <;> exact hW
        refine ⟨_, _, (by first | exact eff_id _ (by simp [cls]) _ | exact eff_push _ _ | exact eff_set _ _ _ _ | trivial), hl.2.2, fun e2 K2 hx hK2 => ?_⟩
        simp only [hx x (by simp [Op.operands]), hx i (by simp [Op.operands]), hk, he, hf, ho]
        cases ob
        · exact absurd rfl hl.1
        · exact ⟨hl.2.1, hK2⟩
        · exact ⟨hl.2.1, hK2⟩
    · exact hW.elim
  case extract x i =>
    simp only at hW
    split at hW
    · rename_i vs he
      split at hW
      · rename_i v hv
        exact ⟨_, _, (by first | exact eff_id _ (by simp [cls]) _ | exact eff_push _ _ | exact eff_set _ _ _ _ | trivial), hW, fun e2 K2 hx hK2 => by simp only [hx x (by simp [Op.operands]), he, hv]; exact hK2⟩
      · exact hW.elim
    · exact hW.elim
  case call c =>
    obtain ⟨callee, args, argTypes⟩ := c
    cases callee with
    | value f => exact hW.elim
    | invoke r m => exact hW.elim
    | builtin b =>
      have hmem : ∀ y ∈ args.toList, y ∈ (Op.call ⟨.builtin b, args, argTypes⟩).operands.toList := by
        intro y hy
        simp only [Op.operands, Call.operands, Array.toList_append, List.mem_append]
        exact .inr hy
      cases b
      case len =>
        simp only at hW
        split at hW
        · rename_i x t hx' ht'
          obtain ⟨hk, hW⟩ := hW
          have hxm : x ∈ args.toList := by rw [hx']; simp
          split at hW
          · rename_i id sz off len he
            split at hW
            · rename_i sz' rows ho
              exact ⟨_, _, (by first | exact eff_id _ (by simp [cls]) _ | exact eff_push _ _ | exact eff_set _ _ _ _ | trivial), hW.2, fun e2 K2 hx hK2 => by simp only [hx', ht', hx x (hmem x hxm), he, ho]; exact ⟨hk, hW.1, hK2⟩⟩
            · exact hW.elim
          · rename_i sz rows he
            exact ⟨_, _, (by first | exact eff_id _ (by simp [cls]) _ | exact eff_push _ _ | exact eff_set _ _ _ _ | trivial), hW, fun e2 K2 hx hK2 => by simp only [hx', ht', hx x (hmem x hxm), he]; exact ⟨hk, hK2⟩⟩
          · rename_i he
            exact ⟨_, _, (by first | exact eff_id _ (by simp [cls]) _ | exact eff_push _ _ | exact eff_set _ _ _ _ | trivial), hW, fun e2 K2 hx hK2 => by simp only [hx', ht', hx x (hmem x hxm), he]; exact ⟨hk, hK2⟩⟩
          · exact hW.elim
        · exact hW.elim
      case append =>
        simp only at hW
        split at hW
        · rename_i s x t t' hx' ht'
          have hsm : s ∈ args.toList := by rw [hx']; simp
          have hxm : x ∈ args.toList := by rw [hx']; simp
          split at hW
          · rename_i z pre σ1 sz src hk hz hdst hsrc
            have henv : ∀ (s : St) (sz : Nat) (v : AV) (pre : List (List AV)) (s1 : St), dstRows s sz v = some (pre, s1) → s1 = ⟨s.env, s1.objs⟩ ∧ ∀ e, dstRows ⟨e, s.objs⟩ sz v = some (pre, ⟨e, s1.objs⟩) := by
              intro s sz v pre s1 h
              unfold dstRows at h ⊢
              split at h
              · simp at h; obtain ⟨rfl, rfl⟩ := h; exact ⟨rfl, fun e => rfl⟩
              · split at h
                · split at h
                  · rename_i ho hc
                    simp at h
                    obtain ⟨rfl, rfl⟩ := h
                    refine ⟨rfl, fun e => ?_⟩
                    simp only [ho, hc, and_self, if_true]
                  · simp at h
                · simp at h
              · simp at h
            obtain ⟨e1, e2'⟩ := henv _ _ _ _ _ hdst
            refine ⟨.ref σ1.objs.length sz 0 (pre.length + src.length), σ1.objs ++ [.arr sz (pre ++ src)], trivial, ?_, fun e2 K2 hx hK2 => ?_⟩
            · have := hW.2
              rw [e1] at this
              exact this
            · have hs2 : srcRows ⟨e2, σ.objs⟩ (ev σ x) = some (sz, src) := by rw [← hsrc]; rfl
              simp only [hx', ht', hx s (hmem s hsm), hx x (hmem x hxm), hk, hz, e2' e2, hs2]
              exact ⟨hW.1, hK2⟩
          · exact hW.elim
        · exact hW.elim
      case min =>
        simp only at hW
        split at hW
        · rename_i x y hx'
          have hxm : x ∈ args.toList := by rw [hx']; simp
          have hym : y ∈ args.toList := by rw [hx']; simp
          split at hW
          · rename_i k p k' q he hf
            exact ⟨_, _, (by first | exact eff_id _ (by simp [cls]) _ | exact eff_push _ _ | exact eff_set _ _ _ _ | trivial), hW.2, fun e2 K2 hx hK2 => by simp only [hx', hx x (hmem x hxm), hx y (hmem y hym), he, hf]; exact ⟨hW.1, hK2⟩⟩
          · exact hW.elim
        · exact hW.elim
      case max =>
        simp only at hW
        split at hW
        · rename_i x y hx'
          have hxm : x ∈ args.toList := by rw [hx']; simp
          have hym : y ∈ args.toList := by rw [hx']; simp
          split at hW
          · rename_i k p k' q he hf
            exact ⟨_, _, (by first | exact eff_id _ (by simp [cls]) _ | exact eff_push _ _ | exact eff_set _ _ _ _ | trivial), hW.2, fun e2 K2 hx hK2 => by simp only [hx', hx x (hmem x hxm), hx y (hmem y hym), he, hf]; exact ⟨hW.1, hK2⟩⟩
          · exact hW.elim
        · exact hW.elim
      all_goals exact hW.elim
  all_goals exact hW.elim

/-- the object at which a value points -/
def pointsTo : AV → Option Nat
  | .ref id _ _ _ => some id
  | .ptr id _ _ => some id
  | _ => none

/-- how much of the objects an operation of a kind looks at -/
def ObjC (c : Nat) (a b : Option Ob) : Prop :=
  if c = 0 then True else if c = 1 then ∀ o, a = some o → ∃ o', b = some o' ∧ sameK o o' else ∀ o, a = some o → b = some o

theorem opW_value {o : Oper} {σ : St} {K : St → Prop} (hc : cls o.op ≤ 2) (hW : opW P o σ K) :
    ∃ v, K (σ.put o.dst v) ∧ ∀ (σ2 : St) (K2 : St → Prop), (∀ x ∈ o.op.operands.toList, ev σ2 x = ev σ x) → (∀ x ∈ o.op.operands.toList, ∀ id, pointsTo (ev σ x) = some id → ObjC (cls o.op) σ.objs[id]? σ2.objs[id]?) →
      K2 (σ2.put o.dst v) → opW P o σ2 K2 := by
  obtain ⟨dst, op, type, pos, after, guard⟩ := o
  unfold opW at hW ⊢
  have shape : ∀ (σ2 : St) (id : Nat) (ob : Ob), ObjC 1 σ.objs[id]? σ2.objs[id]? → σ.objs[id]? = some ob → ∃ ob', σ2.objs[id]? = some ob' ∧ sameK ob ob' := by
    intro σ2 id ob h ho
    have h' : ∀ o, σ.objs[id]? = some o → ∃ o', σ2.objs[id]? = some o' ∧ sameK o o' := by simpa [ObjC] using h
    exact h' ob ho
  cases op
  case move x => exact ⟨_, hW, fun σ2 K2 hx hc2 hK => by simp only [hx x (by simp [Op.operands])]; exact hK⟩
  case assign x => exact ⟨_, hW, fun σ2 K2 hx hc2 hK => by simp only [hx x (by simp [Op.operands])]; exact hK⟩
  case pick c x y =>
    simp only at hW
    split at hW
    · rename_i t he
      exact ⟨_, hW, fun σ2 K2 hx hc2 hK => by simp only [hx c (by simp [Op.operands]), hx x (by simp [Op.operands]), hx y (by simp [Op.operands]), he]; exact hK⟩
    · exact hW.elim
  case build t parts =>
    simp only at hW
    split at hW
    · rename_i z hk hz
      split at hW
      · rename_i cs hf
        refine ⟨_, hW.2, fun σ2 K2 hx hc2 hK => ?_⟩
        have hp : (parts.toList.map fun p => (p.1, ev σ2 p.2)) = (parts.toList.map fun p => (p.1, ev σ p.2)) := List.map_congr_left fun p hp => by
          rw [hx p.2 (by simp only [Op.operands, List.mem_map]; exact ⟨p, by simpa using hp, rfl⟩)]
        have hall : (parts.toList.all fun p => (cellsOf (ev σ2 p.2)).all scal) = (parts.toList.all fun p => (cellsOf (ev σ p.2)).all scal) := by
          rw [Bool.eq_iff_iff]
          simp only [List.all_eq_true]
          exact ⟨fun h p hp => by rw [← hx p.2 (by simp only [Op.operands, List.mem_map]; exact ⟨p, by simpa using hp, rfl⟩)]; exact h p hp,
            fun h p hp => by rw [hx p.2 (by simp only [Op.operands, List.mem_map]; exact ⟨p, by simpa using hp, rfl⟩)]; exact h p hp⟩
        simp only [hk, hz, hp, hf, hall]
        exact ⟨hW.1, hK⟩
      · exact hW.elim
    · exact hW.elim
  case binOp op t x y yt =>
    simp only at hW
    split at hW
    · rename_i k p k' q he hf
      obtain ⟨hkk, hW⟩ := hW
      have lin : ∃ v, K (σ.put dst (.lit v)) ∧ ∀ K2 : Value → Prop, K2 v → intW op k p q K2 := by
        unfold intW at hW ⊢
        split at hW <;> first | exact ⟨_, hW.2, fun K2 h => ⟨hW.1, h⟩⟩ | exact ⟨_, hW, fun K2 h => h⟩ | exact hW.elim
      obtain ⟨v, h1, h2⟩ := lin
      refine ⟨.lit v, h1, fun σ2 K2 hx hc2 hK2 => ?_⟩
      simp only [hx x (by simp [Op.operands]), hx y (by simp [Op.operands]), he, hf]
      exact ⟨hkk, h2 _ hK2⟩
    · rename_i p q he hf
      obtain ⟨hk, hW⟩ := hW
      split at hW
      · exact ⟨_, hW, fun σ2 K2 hx hc2 hK2 => by simp only [hx x (by simp [Op.operands]), hx y (by simp [Op.operands]), he, hf]; exact ⟨hk, hK2⟩⟩
      · exact ⟨_, hW, fun σ2 K2 hx hc2 hK2 => by simp only [hx x (by simp [Op.operands]), hx y (by simp [Op.operands]), he, hf]; exact ⟨hk, hK2⟩⟩
      · exact hW.elim
    · rename_i sz rows he hf
      obtain ⟨hk, hW⟩ := hW
      split at hW
      · exact ⟨_, hW, fun σ2 K2 hx hc2 hK2 => by simp only [hx x (by simp [Op.operands]), hx y (by simp [Op.operands]), he, hf]; exact ⟨hk, hK2⟩⟩
      · exact ⟨_, hW, fun σ2 K2 hx hc2 hK2 => by simp only [hx x (by simp [Op.operands]), hx y (by simp [Op.operands]), he, hf]; exact ⟨hk, hK2⟩⟩
      · exact hW.elim
    · exact hW.elim
  case unOp op t x =>
    simp only at hW
    split at hW
    · rename_i b he
      exact ⟨_, hW, fun σ2 K2 hx hc2 hK2 => by simp only [hx x (by simp [Op.operands]), he]; exact hK2⟩
    · rename_i k n he
      exact ⟨_, hW.2, fun σ2 K2 hx hc2 hK2 => by simp only [hx x (by simp [Op.operands]), he]; exact ⟨hW.1, hK2⟩⟩
    · exact hW.elim
  case makeFunc fn first captured =>
    simp only at hW
    split at hW
    · rename_i f
      obtain ⟨hf, hK⟩ := hW
      refine ⟨_, hK, fun σ2 K2 hx hc2 hK2 => ?_⟩
      have hc : captured.toList.map (ev σ2) = captured.toList.map (ev σ) := List.map_congr_left fun y hy => hx y (by simp only [Op.operands, Array.toList_append, List.mem_append]; exact .inr hy)
      simp only [hc]
      exact ⟨hf, hK2⟩
    · exact hW.elim
  case field s x f =>
    simp only at hW
    split at hW
    · rename_i off ft size hk hfl
      obtain ⟨h1, h2, hW⟩ := hW
      split at hW
      · rename_i cs he
        split at hW
        · rename_i hag
          exact ⟨_, hW.2, fun σ2 K2 hx hc2 hK2 => by simp only [hx x (by simp [Op.operands]), hk, hfl, he, hag, if_true]; exact ⟨h1, h2, hW.1, hK2⟩⟩
        · rename_i hag
          split at hW
          · rename_i v hv
            refine ⟨_, hW, fun σ2 K2 hx hc2 hK2 => ?_⟩
            simp only [hx x (by simp [Op.operands]), hk, hfl, he]
            refine ⟨h1, h2, ?_⟩
            rw [if_neg hag]
            simp only [hv]
            exact hK2
          · exact hW.elim
      · exact hW.elim
    · exact hW.elim
  case extract x i =>
    simp only at hW
    split at hW
    · rename_i vs he
      split at hW
      · rename_i v hv
        exact ⟨_, hW, fun σ2 K2 hx hc2 hK2 => by simp only [hx x (by simp [Op.operands]), he, hv]; exact hK2⟩
      · exact hW.elim
    · exact hW.elim
  case load t x =>
    simp only at hW
    obtain ⟨hk, hW⟩ := hW
    have lin : ∀ (cells : List AV) (c : Nat) (K : AV → Prop), loadA (ty P t) cells c K → ∃ v, K v ∧ ∀ K2 : AV → Prop, K2 v → loadA (ty P t) cells c K2 := by
      intro cells c K h
      unfold loadA at h ⊢
      split at h
      · rename_i hag; exact ⟨_, h.2, fun K2 hK => by rw [if_pos hag]; exact ⟨h.1, hK⟩⟩
      · rename_i hag
        split at h
        · rename_i v hv; exact ⟨_, h, fun K2 hK => by rw [if_neg hag]; exact hK⟩
        · exact h.elim
    split at hW
    · rename_i id r c he
      split at hW
      · rename_i row hrow
        obtain ⟨v, hK, hl⟩ := lin _ _ _ hW
        refine ⟨v, hK, fun σ2 K2 hx hc2 hK2 => ?_⟩
        have hob : ∀ o, σ.objs[id]? = some o → σ2.objs[id]? = some o := by
          have := hc2 x (by simp [Op.operands]) id (by rw [he]; rfl)
          simpa [ObjC, cls] using this
        have hr2 : rowOf σ2 id r = some row := by
          cases ho : σ.objs[id]? with
          | none => unfold rowOf at hrow; rw [ho] at hrow; simp at hrow
          | some ob =>
            unfold rowOf at hrow ⊢
            rw [hob _ ho]; rw [ho] at hrow; exact hrow
        simp only [hx x (by simp [Op.operands]), he, hr2]
        exact ⟨hk, hl _ hK2⟩
      · exact hW.elim
    · rename_i cells he
      obtain ⟨v, hK, hl⟩ := lin _ _ _ hW
      refine ⟨v, hK, fun σ2 K2 hx hc2 hK2 => ?_⟩
      simp only [hx x (by simp [Op.operands]), he]
      exact ⟨hk, hl _ hK2⟩
    · exact hW.elim
  case nilCheck x =>
    simp only at hW
    split at hW
    · rename_i id r c he
      cases ho : σ.objs[id]? with
      | none => simp [ho] at hW
      | some ob =>
        have hl : ob ≠ .gone ∧ K (σ.put dst (.ptr id r c)) := by cases ob <;> simp [ho] at hW ⊢ <;> exact hW
        refine ⟨_, hl.2, fun σ2 K2 hx hc2 hK2 => ?_⟩
        obtain ⟨ob', ho', hk⟩ := shape σ2 id ob (hc2 x (by simp [Op.operands]) id (by rw [he]; rfl)) ho
        simp only [hx x (by simp [Op.operands]), he, ho']
        cases ob <;> cases ob' <;> simp [sameK] at hk hl ⊢ <;> exact hK2
    · rename_i cells he
      exact ⟨_, hW, fun σ2 K2 hx hc2 hK2 => by simp only [hx x (by simp [Op.operands]), he]; exact hK2⟩
    · exact hW.elim
  case fieldAddr s x f =>
    simp only at hW
    split at hW
    · rename_i off ft size hk hfl
      obtain ⟨hsz, hW⟩ := hW
      split at hW
      · rename_i id r c he
        cases ho : σ.objs[id]? with
        | none => simp [ho] at hW
        | some ob =>
          have hl : ob ≠ .gone ∧ K (σ.put dst (.ptr id r (c + off))) := by cases ob <;> simp [ho] at hW ⊢ <;> exact hW
          refine ⟨_, hl.2, fun σ2 K2 hx hc2 hK2 => ?_⟩
          obtain ⟨ob', ho', hk'⟩ := shape σ2 id ob (hc2 x (by simp [Op.operands]) id (by rw [he]; rfl)) ho
          simp only [hx x (by simp [Op.operands]), hk, hfl, he, ho']
          cases ob <;> cases ob' <;> simp [sameK] at hk' hl ⊢ <;> exact ⟨hsz, hK2⟩
      · rename_i cells he
        exact ⟨_, hW, fun σ2 K2 hx hc2 hK2 => by simp only [hx x (by simp [Op.operands]), hk, hfl, he]; exact ⟨hsz, hK2⟩⟩
      · exact hW.elim
    · exact hW.elim
  case indexAddr t x i =>
    simp only at hW
    split at hW
    · rename_i id sz off len k n hk he hf
      split at hW
      · rename_i sz' rows ho
        refine ⟨_, hW.2, fun σ2 K2 hx hc2 hK2 => ?_⟩
        obtain ⟨ob', ho', hk'⟩ := shape σ2 id _ (hc2 x (by simp [Op.operands]) id (by rw [he]; rfl)) ho
        simp only [hx x (by simp [Op.operands]), hx i (by simp [Op.operands]), hk, he, hf, ho']
        cases ob' <;> simp [sameK] at hk'
        subst hk'
        exact ⟨hW.1, hK2⟩
      · exact hW.elim
    · rename_i sz rows k n hk he hf
      exact ⟨_, hW.2, fun σ2 K2 hx hc2 hK2 => by simp only [hx x (by simp [Op.operands]), hx i (by simp [Op.operands]), hk, he, hf]; exact ⟨hW.1, hK2⟩⟩
    · rename_i id r c k n hk he hf
      cases ho : σ.objs[id]? with
      | none => simp [ho] at hW
      | some ob =>
        have hl : ob ≠ .gone ∧ ((ty P (ty P t).elem).kind ≠ 99 ∧ 0 ≤ n ∧ n < (ty P t).len) ∧ K (σ.put dst (.ptr id r (c + n.toNat * (ty P (ty P t).elem).size))) := by cases ob <;> simp [ho] at hW ⊢ <;> exact hW
        refine ⟨_, hl.2.2, fun σ2 K2 hx hc2 hK2 => ?_⟩
        obtain ⟨ob', ho', hk'⟩ := shape σ2 id ob (hc2 x (by simp [Op.operands]) id (by rw [he]; rfl)) ho
        simp only [hx x (by simp [Op.operands]), hx i (by simp [Op.operands]), hk, he, hf, ho']
        obtain ⟨hl1, hl2, _⟩ := hl
        cases ob <;> cases ob' <;> simp [sameK] at hk' hl1 ⊢ <;> exact ⟨hl2, hK2⟩
    · exact hW.elim
  case slice t x lo hi mx =>
    simp only at hW
    obtain ⟨hk, hke, rfl, hW⟩ := hW
    have ops : ∀ (σ2 : St), (∀ y ∈ (Op.slice t x lo hi none).operands.toList, ev σ2 y = ev σ y) → ev σ2 x = ev σ x ∧ lo.map (ev σ2) = lo.map (ev σ) ∧ hi.map (ev σ2) = hi.map (ev σ) := by
      intro e2 hx
      refine ⟨hx x (by simp [Op.operands]), ?_, ?_⟩
      · cases lo with
        | none => rfl
        | some y => simp only [Option.map_some]; rw [hx y (by simp [Op.operands])]
      · cases hi with
        | none => rfl
        | some y => simp only [Option.map_some]; rw [hx y (by simp [Op.operands])]
    split at hW
    · rename_i id sz off len he
      split at hW
      · rename_i sz' rows ho
        obtain ⟨hs1, hs2, hW⟩ := hW
        have tail : ∀ (σ2 : St), (∀ y ∈ (Op.slice t x lo hi none).operands.toList, ∀ id, pointsTo (ev σ y) = some id → ObjC 1 σ.objs[id]? σ2.objs[id]?) → ∃ rows', σ2.objs[id]? = some (.arr sz' rows') := by
          intro σ2 hc2
          obtain ⟨ob', ho', hk'⟩ := shape σ2 id _ (hc2 x (by simp [Op.operands]) id (by rw [he]; rfl)) ho
          cases ob' <;> simp [sameK] at hk'
          subst hk'
          exact ⟨_, ho'⟩
        split at hW
        · rename_i g1 g2
          refine ⟨_, hW, fun σ2 K2 hx hc2 hK2 => ?_⟩
          obtain ⟨a1, a2, a3⟩ := ops σ2 hx
          obtain ⟨rows', ho'⟩ := tail σ2 hc2
          simp only [a1, a2, a3, he, ho', g1, g2]
          exact ⟨hk, hke, trivial, hs1, hs2, hK2⟩
        · rename_i g1 g2
          refine ⟨_, hW.2, fun σ2 K2 hx hc2 hK2 => ?_⟩
          obtain ⟨a1, a2, a3⟩ := ops σ2 hx
          obtain ⟨rows', ho'⟩ := tail σ2 hc2
          simp only [a1, a2, a3, he, ho', g1, g2]
          exact ⟨hk, hke, trivial, hs1, hs2, by simpa using hW.1, hK2⟩
        · rename_i g1 g2
          refine ⟨_, hW.2, fun σ2 K2 hx hc2 hK2 => ?_⟩
          obtain ⟨a1, a2, a3⟩ := ops σ2 hx
          obtain ⟨rows', ho'⟩ := tail σ2 hc2
          simp only [a1, a2, a3, he, ho', g1, g2]
          exact ⟨hk, hke, trivial, hs1, hs2, hW.1, hK2⟩
        · rename_i g1 g2
          refine ⟨_, hW.2, fun σ2 K2 hx hc2 hK2 => ?_⟩
          obtain ⟨a1, a2, a3⟩ := ops σ2 hx
          obtain ⟨rows', ho'⟩ := tail σ2 hc2
          simp only [a1, a2, a3, he, ho', g1, g2]
          exact ⟨hk, hke, trivial, hs1, hs2, hW.1, hK2⟩
        · exact hW.elim
      · exact hW.elim
    · rename_i sz rows he
      obtain ⟨hs1, hW⟩ := hW
      split at hW
      · rename_i g1 g2
        refine ⟨_, hW, fun σ2 K2 hx hc2 hK2 => ?_⟩
        obtain ⟨a1, a2, a3⟩ := ops σ2 hx
        simp only [a1, a2, a3, he, g1, g2]
        exact ⟨hk, hke, trivial, hs1, hK2⟩
      · rename_i g1 g2
        refine ⟨_, hW.2, fun σ2 K2 hx hc2 hK2 => ?_⟩
        obtain ⟨a1, a2, a3⟩ := ops σ2 hx
        simp only [a1, a2, a3, he, g1, g2]
        exact ⟨hk, hke, trivial, hs1, hW.1, hK2⟩
      · rename_i g1 g2
        refine ⟨_, hW.2, fun σ2 K2 hx hc2 hK2 => ?_⟩
        obtain ⟨a1, a2, a3⟩ := ops σ2 hx
        simp only [a1, a2, a3, he, g1, g2]
        exact ⟨hk, hke, trivial, hs1, hW.1, hK2⟩
      · rename_i g1 g2
        refine ⟨_, hW.2, fun σ2 K2 hx hc2 hK2 => ?_⟩
        obtain ⟨a1, a2, a3⟩ := ops σ2 hx
        simp only [a1, a2, a3, he, g1, g2]
        exact ⟨hk, hke, trivial, hs1, hW.1, hK2⟩
      · exact hW.elim
    · exact hW.elim
  case call c =>
    obtain ⟨callee, args, argTypes⟩ := c
    cases callee with
    | value f => exact hW.elim
    | invoke r m => exact hW.elim
    | builtin b =>
      have hmem : ∀ y ∈ args.toList, y ∈ (Op.call ⟨.builtin b, args, argTypes⟩).operands.toList := by
        intro y hy
        simp only [Op.operands, Call.operands, Array.toList_append, List.mem_append]
        exact .inr hy
      cases b
      case len =>
        simp only at hW
        split at hW
        · rename_i x t hx' ht'
          obtain ⟨hk, hW⟩ := hW
          have hxm : x ∈ args.toList := by rw [hx']; simp
          split at hW
          · rename_i id sz off len he
            split at hW
            · rename_i sz' rows ho
              refine ⟨_, hW.2, fun σ2 K2 hx hc2 hK2 => ?_⟩
              obtain ⟨ob', ho', hk'⟩ := shape σ2 id _ (hc2 x (hmem x hxm) id (by rw [he]; rfl)) ho
              cases ob' <;> simp [sameK] at hk'
              subst hk'
              simp only [hx', ht', hx x (hmem x hxm), he, ho']
              exact ⟨hk, hW.1, hK2⟩
            · exact hW.elim
          · rename_i sz rows he
            exact ⟨_, hW, fun σ2 K2 hx hc2 hK2 => by simp only [hx', ht', hx x (hmem x hxm), he]; exact ⟨hk, hK2⟩⟩
          · rename_i he
            exact ⟨_, hW, fun σ2 K2 hx hc2 hK2 => by simp only [hx', ht', hx x (hmem x hxm), he]; exact ⟨hk, hK2⟩⟩
          · exact hW.elim
        · exact hW.elim
      case append => simp [cls] at hc
      case min =>
        simp only at hW
        split at hW
        · rename_i x y hx'
          have hxm : x ∈ args.toList := by rw [hx']; simp
          have hym : y ∈ args.toList := by rw [hx']; simp
          split at hW
          · rename_i k p k' q he hf
            exact ⟨_, hW.2, fun σ2 K2 hx hc2 hK2 => by simp only [hx', hx x (hmem x hxm), hx y (hmem y hym), he, hf]; exact ⟨hW.1, hK2⟩⟩
          · exact hW.elim
        · exact hW.elim
      case max =>
        simp only at hW
        split at hW
        · rename_i x y hx'
          have hxm : x ∈ args.toList := by rw [hx']; simp
          have hym : y ∈ args.toList := by rw [hx']; simp
          split at hW
          · rename_i k p k' q he hf
            exact ⟨_, hW.2, fun σ2 K2 hx hc2 hK2 => by simp only [hx', hx x (hmem x hxm), hx y (hmem y hym), he, hf]; exact ⟨hW.1, hK2⟩⟩
          · exact hW.elim
        · exact hW.elim
      all_goals exact hW.elim
  all_goals first | exact hW.elim | simp [cls] at hc

end Go.Am
