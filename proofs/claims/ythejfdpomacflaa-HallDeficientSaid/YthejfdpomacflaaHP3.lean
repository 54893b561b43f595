import Derived.Test.YthejfdpomacflaaHP2
open Go Go.Am Go.Proofs
set_option linter.unusedSimpArgs false
set_option linter.unusedVariables false
namespace T

/-! ### Match returns what Right accepts -/
theorem MOK.okAt {left : List (List Int)} {R : Nat} {owner number : List Int} (h : MOK left R owner number) {i : Nat} (hi : i < left.length) (h0 : 0 ≤ number.getD i 0) : okAt left number i = true := by
  obtain ⟨a, b, c⟩ := h.fwd i hi h0
  rw [T.okAt, Bool.and_eq_true, List.any_eq_true, List.all_eq_true]
  refine ⟨⟨_, c, by simp⟩, fun y hy => ?_⟩
  obtain ⟨j, hj, rfl⟩ := List.mem_iff_getElem.1 hy
  rw [List.length_take] at hj
  have hjn : j < number.length := by omega
  have hji : j < i := by omega
  rw [List.getElem_take]
  have e : number[j] = number.getD j 0 := by rw [List.getD_eq_getElem?_getD, List.getElem?_eq_getElem hjn]; rfl
  rw [e, Bool.not_eq_true', decide_eq_false_iff_not]
  intro he
  obtain ⟨a', b', c'⟩ := h.fwd j (by omega) (by omega)
  rw [he] at b'
  omega

theorem rightL_main {left : List (List Int)} {R : Nat} {owner number : List Int} (h : MOK left R owner number) : ∀ (c i k : Nat), i + c = left.length →
    rightL left R number c i k = decide (k + cn left.length (on number) = size left R (-1) + cn i (on number))
  | 0, i, k, hi => by
    obtain rfl : i = left.length := by omega
    rw [rightL]
    congr 1
    simp only [eq_iff_iff]
    omega
  | c + 1, i, k, hi => by
    rw [rightL]
    have hr := h.rng i (by omega)
    have hs := cn_succ i (on number)
    split
    · rename_i h1
      rw [rightL_main h c (i + 1) k (by omega), hs]
      have : on number i = false := by rw [on, h1]; rfl
      rw [this]; rfl
    · rw [if_pos (h.okAt (by omega) (by omega)), rightL_main h c (i + 1) (k + 1) (by omega), hs]
      have : on number i = true := decide_eq_true (by omega)
      rw [this]
      simp only [if_true]
      congr 1
      simp only [eq_iff_iff]
      omega

theorem right_matchR {left : List (List Int)} {R : Nat} (hL : LeftOK R left) : right left R (matchR left R).2 = true := by
  obtain ⟨⟨D, h⟩, hc⟩ := matchW_main hL (-1)
  rw [matchW_none] at h hc
  rw [right, if_neg (by rw [h.ok.hN]; simp), h.ok.hN, rightL_main h.ok left.length 0 0 (by omega), hc]
  simp [cn_zero]

/-! ### weak duality -/
theorem on_le {left : List (List Int)} {R : Nat} {owner number : List Int} (h : MOK left R owner number) {T D : Nat → Bool} (hT : ∀ i, i < left.length → T i = true → ∀ y ∈ left.getD i [], D y.toNat = true) :
    cn left.length (fun i => T i && on number i) ≤ cn R (fun x => D x && decide (0 ≤ owner.getD x 0) && T (owner.getD x 0).toNat) := by
  refine cn_inj (fun i => (number.getD i 0).toNat) (fun i hi hp => ?_) (fun i j hi hj hp hq he => ?_)
  · simp only [Bool.and_eq_true, on, decide_eq_true_eq] at hp
    obtain ⟨a, b, c⟩ := h.fwd i hi hp.2
    refine ⟨by omega, ?_⟩
    simp only [b, Int.toNat_natCast, hp.1, hT i hi hp.1 _ c, Bool.true_and, Bool.and_true, decide_eq_true_eq]
    omega
  · simp only [Bool.and_eq_true, on, decide_eq_true_eq] at hp hq
    obtain ⟨a, b, c⟩ := h.fwd i hi hp.2
    obtain ⟨a', b', c'⟩ := h.fwd j hj hq.2
    try dsimp only at he
    rw [he] at b
    omega

theorem on_ge {left : List (List Int)} {R : Nat} {owner number : List Int} (h : MOK left R owner number) {T D : Nat → Bool} (hD : ∀ x, x < R → D x = true → 0 ≤ owner.getD x 0 ∧ T (owner.getD x 0).toNat = true) :
    cn R D ≤ cn left.length (fun i => T i && on number i) := by
  refine cn_inj (fun x => (owner.getD x 0).toNat) (fun x hx hp => ?_) (fun x y hx hy hp hq he => ?_)
  · obtain ⟨a, b⟩ := hD x hx hp
    have hg := h.hO.get hx
    refine ⟨by omega, ?_⟩
    simp only [b, Bool.true_and, on, decide_eq_true_eq]
    rw [h.bwd x hx a]; omega
  · obtain ⟨a, b⟩ := hD x hx hp
    obtain ⟨a', b'⟩ := hD y hy hq
    have e1 := h.bwd x hx a
    have e2 := h.bwd y hy a'
    try dsimp only at he
    rw [he] at e1
    omega

/-! ### the search -/
theorem bfsRow_mono {list : List Int} : ∀ (l q : List Int) (used inn : List Bool), (∀ i, i ∈ q → i ∈ (bfsRow list l q used inn).1) ∧ (∀ x, used.getD x false = true → (bfsRow list l q used inn).2.1.getD x false = true) ∧ (∀ i, inn.getD i false = true → (bfsRow list l q used inn).2.2.getD i false = true)
  | [], q, used, inn => ⟨fun _ h => h, fun _ h => h, fun _ h => h⟩
  | n :: r, q, used, inn => by
    have hm : ∀ (l : List Bool) (k x : Nat), l.getD x false = true → (l.set k true).getD x false = true := fun l k x h => by
      by_cases hk : k < l.length
      · rw [gset _ _ _ _ _ hk]; split <;> simp_all
      · rw [List.set_eq_of_length_le (by omega)]; exact h
    rw [bfsRow]
    split
    · obtain ⟨a, b, c⟩ := bfsRow_mono (list := list) r (q ++ [list.getD n.toNat 0]) (used.set n.toNat true) (inn.set (list.getD n.toNat 0).toNat true)
      exact ⟨fun i h => a i (by simp [h]), fun x h => b x (hm _ _ _ h), fun x h => c x (hm _ _ _ h)⟩
    · obtain ⟨a, b, c⟩ := bfsRow_mono (list := list) r q (used.set n.toNat true) inn
      exact ⟨a, fun x h => b x (hm _ _ _ h), c⟩

theorem bfsRow_spec {list : List Int} {n R : Nat} (ho : OwnOK n R list) : ∀ (l q : List Int) (used inn : List Bool), (∀ x ∈ l, 0 ≤ x ∧ x < R) → used.length = R → inn.length = n →
    (∀ i, (bfsRow list l q used inn).2.2.getD i false = true → inn.getD i false = true ∨ (i : Int) ∈ (bfsRow list l q used inn).1) ∧
    (∀ x ∈ l, (bfsRow list l q used inn).2.1.getD x.toNat false = true) ∧
    (∀ x, (bfsRow list l q used inn).2.1.getD x false = true → used.getD x false = true ∨ (0 ≤ list.getD x 0 → (bfsRow list l q used inn).2.2.getD (list.getD x 0).toNat false = true)) ∧
    ∀ (T E : Nat → Prop), (∀ x, E x → 0 ≤ list.getD x 0 → T (list.getD x 0).toNat) → (∀ x ∈ l, E x.toNat) → (∀ i, inn.getD i false = true → T i) → (∀ x, used.getD x false = true → E x) → (∀ i ∈ q, T i.toNat) →
      (∀ i, (bfsRow list l q used inn).2.2.getD i false = true → T i) ∧ (∀ x, (bfsRow list l q used inn).2.1.getD x false = true → E x) ∧ ∀ i ∈ (bfsRow list l q used inn).1, T i.toNat
  | [], q, used, inn, _, _, _ => ⟨fun _ h => .inl h, by simp [bfsRow], fun _ h => .inl h, fun T E _ _ h1 h2 h3 => ⟨h1, h2, h3⟩⟩
  | m :: r, q, used, inn, hl, hu, hi => by
    have hx := hl m (by simp)
    have hr : ∀ x ∈ r, 0 ≤ x ∧ x < R := fun y hy => hl y (by simp [hy])
    have hog := ho.get (x := m.toNat) (by omega)
    have hmu : m.toNat < used.length := by omega
    have hset : ∀ (E : Nat → Prop), E m.toNat → (∀ x, used.getD x false = true → E x) → ∀ x, (used.set m.toNat true).getD x false = true → E x := fun E h1 h2 x h => by
      rw [gset _ _ _ _ _ hmu] at h
      split at h
      · rename_i e; subst e; exact h1
      · exact h2 x h
    rw [bfsRow]
    split
    · rename_i hc
      have hki : (list.getD m.toNat 0).toNat < inn.length := by omega
      obtain ⟨m1, m2, m3⟩ := bfsRow_mono (list := list) r (q ++ [list.getD m.toNat 0]) (used.set m.toNat true) (inn.set (list.getD m.toNat 0).toNat true)
      obtain ⟨a, b, c, d⟩ := bfsRow_spec ho r (q ++ [list.getD m.toNat 0]) (used.set m.toNat true) (inn.set (list.getD m.toNat 0).toNat true) hr (by simpa using hu) (by simpa using hi)
      refine ⟨fun i h => ?_, fun x hx => ?_, fun x h => ?_, fun T E hTE hlE h1 h2 h3 => ?_⟩
      · rcases a i h with h' | h'
        · rw [gset _ _ _ _ _ hki] at h'
          split at h'
          · rename_i e
            right
            refine m1 _ ?_
            rw [e, List.mem_append, List.mem_singleton]
            right; omega
          · exact .inl h'
        · exact .inr h'
      · rcases List.mem_cons.1 hx with rfl | hx
        · exact m2 _ (gset_eq _ _ _ _ hmu)
        · exact b x hx
      · rcases c x h with h' | h'
        · rw [gset _ _ _ _ _ hmu] at h'
          split at h'
          · rename_i e
            right
            subst e
            intro _
            exact m3 _ (gset_eq _ _ _ _ hki)
          · exact .inl h'
        · exact .inr h'
      · have hTk : T (list.getD m.toNat 0).toNat := hTE _ (hlE m (by simp)) hc.1
        refine d T E hTE (fun x hx => hlE x (by simp [hx])) (fun i h => ?_) (hset E (hlE m (by simp)) h2) (fun i hi' => ?_)
        · rw [gset _ _ _ _ _ hki] at h
          split at h
          · rename_i e; subst e; exact hTk
          · exact h1 i h
        · rcases List.mem_append.1 hi' with h | h
          · exact h3 i h
          · simp only [List.mem_singleton] at h; subst h; exact hTk
    · rename_i hc
      obtain ⟨m1, m2, m3⟩ := bfsRow_mono (list := list) r q (used.set m.toNat true) inn
      obtain ⟨a, b, c, d⟩ := bfsRow_spec ho r q (used.set m.toNat true) inn hr (by simpa using hu) hi
      refine ⟨a, fun x hx => ?_, fun x h => ?_, fun T E hTE hlE h1 h2 h3 => ?_⟩
      · rcases List.mem_cons.1 hx with rfl | hx
        · exact m2 _ (gset_eq _ _ _ _ hmu)
        · exact b x hx
      · rcases c x h with h' | h'
        · rw [gset _ _ _ _ _ hmu] at h'
          split at h'
          · rename_i e
            right
            subst e
            intro h0
            refine m3 _ ?_
            cases hh : inn.getD (list.getD m.toNat 0).toNat false with
            | true => rfl
            | false => exact absurd ⟨h0, hh⟩ hc
          · exact .inl h'
        · exact .inr h'
      · exact d T E hTE (fun x hx => hlE x (by simp [hx])) h1 (hset E (hlE m (by simp)) h2) h3

theorem bfs_spec {left : List (List Int)} {list : List Int} {R : Nat} (hL : LeftOK R left) (ho : OwnOK left.length R list) : ∀ (f : Nat) (q : List Int) (used inn : List Bool), q.length + cnt inn ≤ f → (∀ x ∈ q, 0 ≤ x ∧ x < left.length) → used.length = R → inn.length = left.length →
    (∀ i, i < left.length → inn.getD i false = true → (i : Int) ∈ q ∨ ∀ x ∈ left.getD i [], used.getD x.toNat false = true) → (∀ x, used.getD x false = true → 0 ≤ list.getD x 0 → inn.getD (list.getD x 0).toNat false = true) →
    ∀ z, bfs left list f q used inn = z → z.1.length = R ∧ z.2.length = left.length ∧ (∀ i, inn.getD i false = true → z.2.getD i false = true) ∧ (∀ i, i < left.length → z.2.getD i false = true → ∀ x ∈ left.getD i [], z.1.getD x.toNat false = true) ∧ (∀ x, z.1.getD x false = true → 0 ≤ list.getD x 0 → z.2.getD (list.getD x 0).toNat false = true) ∧
      ∀ (T E : Nat → Prop), (∀ x, E x → 0 ≤ list.getD x 0 → T (list.getD x 0).toNat) → (∀ i, T i → ∀ x ∈ left.getD i [], E x.toNat) → (∀ i, inn.getD i false = true → T i) → (∀ x, used.getD x false = true → E x) → (∀ i ∈ q, T i.toNat) → (∀ i, z.2.getD i false = true → T i) ∧ ∀ x, z.1.getD x false = true → E x
  | 0, q, used, inn, hf, hq, hu, hi, h1, h2, z, hz => by
    have : q = [] := List.eq_nil_of_length_eq_zero (by omega)
    subst this
    rw [bfs] at hz
    subst hz
    exact ⟨hu, hi, fun _ h => h, fun i hi' h => (h1 i hi' h).resolve_left (by simp), h2, fun T E _ _ a b _ => ⟨a, b⟩⟩
  | f + 1, [], used, inn, hf, hq, hu, hi, h1, h2, z, hz => by
    rw [bfs] at hz
    subst hz
    exact ⟨hu, hi, fun _ h => h, fun i hi' h => (h1 i hi' h).resolve_left (by simp), h2, fun T E _ _ a b _ => ⟨a, b⟩⟩
  | f + 1, i :: q, used, inn, hf, hq, hu, hi, h1, h2, z, hz => by
    rw [bfs] at hz
    have hi0 := hq i (by simp)
    have hl := (hL.get i.toNat).2
    obtain ⟨k1, k2, k3, k4⟩ := bfsRow_ok ho (left.getD i.toNat []) q used inn hl (fun x hx => hq x (by simp [hx])) hu hi
    obtain ⟨m1, m2, m3⟩ := bfsRow_mono (list := list) (left.getD i.toNat []) q used inn
    obtain ⟨a, b, c, d⟩ := bfsRow_spec ho (left.getD i.toNat []) q used inn hl hu hi
    generalize hy : bfsRow list (left.getD i.toNat []) q used inn = y at *
    try dsimp only at hz
    have hf' : q.length + 1 + cnt inn ≤ f + 1 := hf
    obtain ⟨r1, r2, r3, r4, r5, r6⟩ := bfs_spec hL ho f y.1 y.2.1 y.2.2 (by omega) k1 k2 k3 (fun j hj h => by
        rcases a j h with h' | h'
        · rcases h1 j hj h' with h'' | h''
          · rcases List.mem_cons.1 h'' with e | h''
            · right
              intro x hx
              have : i.toNat = j := by omega
              rw [← this] at hx
              exact b x hx
            · exact .inl (m1 _ h'')
          · exact .inr fun x hx => m2 _ (h'' x hx)
        · exact .inl h') (fun x h h0 => by
        rcases c x h with h' | h'
        · exact m3 _ (h2 x h' h0)
        · exact h' h0) z hz
    refine ⟨r1, r2, fun i h => r3 i (m3 i h), r4, r5, fun T E hTE hET h3 h4 h5 => ?_⟩
    obtain ⟨d1, d2, d3⟩ := d T E hTE (fun x hx => hET _ (h5 i (by simp)) x hx) h3 h4 (fun j hj => h5 j (by simp [hj]))
    exact r6 T E hTE hET d1 d2 d3
end T
