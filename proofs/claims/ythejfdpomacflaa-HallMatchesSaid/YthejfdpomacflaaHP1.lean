import Derived.Test.YthejfdpomacflaaH12
open Go Go.Am Go.Proofs
set_option linter.unusedSimpArgs false
set_option linter.unusedVariables false
namespace T

theorem gset {α : Type} (l : List α) (i j : Nat) (v d : α) (h : i < l.length) : (l.set i v).getD j d = if j = i then v else l.getD j d := by
  simp only [List.getD_eq_getElem?_getD, List.getElem?_set]
  by_cases hij : j = i
  · subst hij; simp [h]
  · simp [hij, Ne.symm hij]
theorem gset_ne {α : Type} (l : List α) (i j : Nat) (v d : α) (h : j ≠ i) : (l.set i v).getD j d = l.getD j d := by
  simp only [List.getD_eq_getElem?_getD, List.getElem?_set]
  simp [Ne.symm h]
theorem gset_eq {α : Type} (l : List α) (i : Nat) (v d : α) (h : i < l.length) : (l.set i v).getD i d = v := by
  rw [gset _ _ _ _ _ h]; simp
theorem grep {α : Type} (n j : Nat) (v : α) : (List.replicate n v).getD j v = v := by
  simp only [List.getD_eq_getElem?_getD, List.getElem?_replicate]
  split <;> rfl
theorem grep' {α : Type} (n j : Nat) (v d : α) (h : j < n) : (List.replicate n v).getD j d = v := by
  simp only [List.getD_eq_getElem?_getD, List.getElem?_replicate, h, if_true, Option.getD_some]

/-- a matching -/
structure MOK (left : List (List Int)) (R : Nat) (owner number : List Int) : Prop where
  hO : OwnOK left.length R owner
  hN : number.length = left.length
  rng : ∀ j, j < left.length → -1 ≤ number.getD j 0
  fwd : ∀ j, j < left.length → 0 ≤ number.getD j 0 → number.getD j 0 < R ∧ owner.getD (number.getD j 0).toNat 0 = j ∧ number.getD j 0 ∈ left.getD j []
  bwd : ∀ x, x < R → 0 ≤ owner.getD x 0 → number.getD (owner.getD x 0).toNat 0 = x

structure MEx (left : List (List Int)) (R : Nat) (xs : List Int) (i : Nat) (seen : List Bool) (owner number owner' number' : List Int) : Prop where
  hO : OwnOK left.length R owner'
  hN : number'.length = left.length
  rng : ∀ j, j < left.length → -1 ≤ number'.getD j 0
  fwd : ∀ j, j < left.length → j ≠ i → 0 ≤ number'.getD j 0 → number'.getD j 0 < R ∧ owner'.getD (number'.getD j 0).toNat 0 = j ∧ number'.getD j 0 ∈ left.getD j []
  bwd : ∀ x, x < R → 0 ≤ owner'.getD x 0 → owner'.getD x 0 ≠ i → number'.getD (owner'.getD x 0).toNat 0 = x
  me : ∃ y, y < R ∧ number'.getD i 0 = (y : Nat) ∧ owner'.getD y 0 = i ∧ (y : Int) ∈ xs ∧ seen.getD y false = false ∧ ∀ x, x < R → owner'.getD x 0 = i → x = y ∨ seen.getD x false = true
  keep : ∀ x, x < R → seen.getD x false = true → owner'.getD x 0 = owner.getD x 0
  same : ∀ j, j < left.length → j ≠ i → (number.getD j 0 < 0 ∨ ∃ x, x < R ∧ number.getD j 0 = (x : Nat) ∧ seen.getD x false = true) → number'.getD j 0 = number.getD j 0
  pos : ∀ j, j < left.length → j ≠ i → (0 ≤ number'.getD j 0 ↔ 0 ≤ number.getD j 0)

structure MFail (left : List (List Int)) (R : Nat) (xs : List Int) (seen : List Bool) (owner number : List Int) (seen' : List Bool) (owner' number' : List Int) : Prop where
  eo : owner' = owner
  en : number' = number
  all : ∀ x ∈ xs, seen'.getD x.toNat false = true
  cl : ∀ x, x < R → seen'.getD x false = true → seen.getD x false = true ∨ (0 ≤ owner.getD x 0 ∧ ∀ y ∈ left.getD (owner.getD x 0).toNat [], seen'.getD y.toNat false = true)

theorem augN_main {left : List (List Int)} {R : Nat} (hL : LeftOK R left) : ∀ (f : Nat) (xs : List Int) (i : Nat) (seen : List Bool) (owner number : List Int), cnt seen ≤ f → seen.length = R → (∀ x ∈ xs, 0 ≤ x ∧ x < R) → i < left.length → MOK left R owner number →
    (∀ x, x < R → owner.getD x 0 = i → seen.getD x false = true) → ∀ q, augN left f xs i seen owner number = q →
      (q.1 = true → MEx left R xs i seen owner number q.2.2.1 q.2.2.2) ∧ (q.1 = false → MFail left R xs seen owner number q.2.1 q.2.2.1 q.2.2.2) ∧ (∀ x, seen.getD x false = true → q.2.1.getD x false = true) ∧ q.2.1.length = R ∧ cnt q.2.1 ≤ cnt seen := by
  intro f
  induction f using Nat.strongRecOn with
  | _ f ihf =>
    intro xs
    induction xs with
    | nil =>
      intro i seen owner number hc hs hx hi hM h3 q hq
      rw [augN.eq_def] at hq
      subst hq
      exact ⟨by simp, fun _ => ⟨rfl, rfl, by simp, fun x _ h => .inl h⟩, fun _ h => h, hs, Nat.le_refl _⟩
    | cons x r ih =>
      intro i seen owner number hc hs hx hi hM h3 q hq
      obtain ⟨hx0, hxR⟩ := hx x (by simp)
      have hr : ∀ x ∈ r, 0 ≤ x ∧ x < R := fun y hy => hx y (by simp [hy])
      obtain ⟨n, rfl⟩ : ∃ n : Nat, x = n := ⟨x.toNat, by omega⟩
      rw [augN.eq_def] at hq
      simp only [Int.toNat_natCast] at hq
      have hnR : n < R := by omega
      have hno : n < owner.length := by rw [hM.hO.1]; exact hnR
      have hin : i < number.length := by rw [hM.hN]; exact hi
      by_cases hsn : seen.getD n false = true
      · rw [if_pos hsn] at hq
        obtain ⟨a, b, c, d, e⟩ := ih i seen owner number hc hs hr hi hM h3 q hq
        refine ⟨fun h => ?_, fun h => ?_, c, d, e⟩
        · obtain ⟨y, y1, y2, y3, y4, y5, y6⟩ := (a h).me
          exact { a h with me := ⟨y, y1, y2, y3, by simp [y4], y5, y6⟩ }
        · refine { b h with all := fun y hy => ?_ }
          rcases List.mem_cons.1 hy with rfl | hy
          · simpa using c n hsn
          · exact (b h).all y hy
      · have hsn' : seen.getD n false = false := by simpa using hsn
        rw [if_neg hsn] at hq
        have hcs := cnt_set seen n (by omega) hsn'
        have hog := hM.hO.get hnR
        have hms : ∀ x, seen.getD x false = true → (seen.set n true).getD x false = true := fun x hx => by
          rw [gset _ _ _ _ _ (by omega)]; split <;> simp_all
        by_cases hon : owner.getD n 0 < 0
        · rw [if_pos hon] at hq
          subst hq
          refine ⟨fun _ => ?_, by simp, hms, by simpa using hs, by dsimp only; omega⟩
          dsimp only
          refine ⟨hM.hO.set hi, by simpa using hM.hN, ?_, ?_, ?_, ⟨n, hnR, gset_eq _ _ _ _ hin, gset_eq _ _ _ _ hno, by simp, hsn', ?_⟩, ?_, ?_, ?_⟩
          · intro j hj
            rw [gset _ _ _ _ _ hin]
            split
            · omega
            · exact hM.rng j hj
          · intro j hj hji h0
            rw [gset_ne _ _ _ _ _ hji] at h0 ⊢
            obtain ⟨a, b, c⟩ := hM.fwd j hj h0
            refine ⟨a, ?_, c⟩
            rw [gset_ne]
            · exact b
            · intro e; rw [e] at b; omega
          · intro y hy h0 hne
            by_cases hyn : y = n
            · subst hyn; rw [gset_eq _ _ _ _ hno] at hne; exact absurd rfl hne
            · rw [gset_ne _ _ _ _ _ hyn] at h0 hne ⊢
              rw [gset_ne]
              · exact hM.bwd y hy h0
              · omega
          · intro y hy he
            by_cases hyn : y = n
            · exact .inl hyn
            · rw [gset_ne _ _ _ _ _ hyn] at he
              exact .inr (h3 y hy he)
          · intro y hy hsy
            rw [gset_ne]
            intro e; subst e; simp_all
          · intro j hj hji _
            exact gset_ne _ _ _ _ _ hji
          · intro j hj hji
            rw [gset_ne _ _ _ _ _ hji]
        · rw [if_neg hon] at hq
          obtain ⟨f', rfl⟩ : ∃ f', f = f' + 1 := ⟨f - 1, by omega⟩
          simp only at hq
          obtain ⟨o, ho⟩ : ∃ o : Nat, owner.getD n 0 = o := ⟨(owner.getD n 0).toNat, by omega⟩
          rw [ho] at hq
          simp only [Int.toNat_natCast] at hq
          have hol : o < left.length := by omega
          have hnum : number.getD o 0 = n := by
            have := hM.bwd n hnR (by omega)
            rwa [ho, Int.toNat_natCast] at this
          have hoi : o ≠ i := by
            intro e
            subst e
            have := h3 n hnR ho
            simp_all
          have h3' : ∀ x, x < R → owner.getD x 0 = o → (seen.set n true).getD x false = true := by
            intro y hy he
            have := hM.bwd y hy (by omega)
            rw [he, Int.toNat_natCast, hnum] at this
            have : y = n := by omega
            subst this
            exact gset_eq _ _ _ _ (by omega)
          have hp := ihf f' (by omega) (left.getD o []) o (seen.set n true) owner number (by omega) (by simpa using hs) (hL.get _).2 hol hM h3' _ rfl
          generalize augN left f' (left.getD o []) o (seen.set n true) owner number = p at hp hq
          obtain ⟨p1, p2, p3, p4, p5⟩ := hp
          by_cases hpt : p.1 = true
          · rw [if_pos hpt] at hq
            subst hq
            have hE := p1 hpt
            obtain ⟨pb, ps, po, pn⟩ := p
            dsimp only at hE p3 p4 p5 ⊢
            obtain ⟨y, y1, y2, y3, y4, y5, y6⟩ := hE.me
            have hpo : n < po.length := by rw [hE.hO.1]; exact hnR
            have hpi : i < pn.length := by rw [hE.hN]; exact hi
            have hpn : po.getD n 0 = o := by rw [hE.keep n hnR (gset_eq _ _ _ _ (by omega)), ho]
            have hyn : y ≠ n := by
              intro e
              subst e
              rw [gset_eq _ _ _ _ (by omega)] at y5
              simp at y5
            have hsami : pn.getD i 0 = number.getD i 0 := by
              refine hE.same i hi (Ne.symm hoi) ?_
              by_cases h0 : number.getD i 0 < 0
              · exact .inl h0
              · right
                obtain ⟨a, b, c⟩ := hM.fwd i hi (by omega)
                exact ⟨(number.getD i 0).toNat, by omega, by omega, hms _ (h3 _ (by omega) b)⟩
            refine ⟨fun _ => ⟨hE.hO.set hi, by simpa using hE.hN, ?_, ?_, ?_, ⟨n, hnR, gset_eq _ _ _ _ hpi, gset_eq _ _ _ _ hpo, by simp, hsn', ?_⟩, ?_, ?_, ?_⟩, by simp, fun x h => p3 x (hms x h), p4, by omega⟩
            · intro j hj
              rw [gset _ _ _ _ _ hpi]
              split
              · omega
              · exact hE.rng j hj
            · intro j hj hji h0
              rw [gset_ne _ _ _ _ _ hji] at h0 ⊢
              by_cases hjo : j = o
              · subst hjo
                rw [y2]
                refine ⟨by omega, ?_, y4⟩
                rw [Int.toNat_natCast, gset_ne _ _ _ _ _ hyn]
                exact y3
              · obtain ⟨a, b, c⟩ := hE.fwd j hj hjo h0
                refine ⟨a, ?_, c⟩
                rw [gset_ne]
                · exact b
                · intro e; rw [e, hpn] at b; omega
            · intro z hz h0 hne
              by_cases hzn : z = n
              · subst hzn; rw [gset_eq _ _ _ _ hpo] at hne; exact absurd rfl hne
              · rw [gset_ne _ _ _ _ _ hzn] at h0 hne ⊢
                rw [gset_ne _ _ _ _ _ (by omega)]
                by_cases hzo : po.getD z 0 = o
                · rcases y6 z hz hzo with rfl | hsz
                  · rw [hzo, Int.toNat_natCast, y2]
                  · have := hE.keep z hz hsz
                    rw [hzo] at this
                    have hb := hM.bwd z hz (by omega)
                    rw [← this, Int.toNat_natCast, hnum] at hb
                    omega
                · exact hE.bwd z hz h0 hzo
            · intro z hz he
              by_cases hzn : z = n
              · exact .inl hzn
              · right
                rw [gset_ne _ _ _ _ _ hzn] at he
                have hb := hE.bwd z hz (by omega) (by omega)
                rw [he, Int.toNat_natCast, hsami] at hb
                obtain ⟨a, b, c⟩ := hM.fwd i hi (by omega)
                rw [hb, Int.toNat_natCast] at b
                exact h3 z hz b
            · intro z hz hsz
              have hzn : z ≠ n := by intro e; subst e; simp_all
              rw [gset_ne _ _ _ _ _ hzn]
              exact hE.keep z hz (hms z hsz)
            · intro j hj hji hor
              rw [gset_ne _ _ _ _ _ hji]
              have hjo : j ≠ o := by
                intro e; subst e
                rcases hor with h | ⟨z, hz, hz1, hz2⟩
                · omega
                · have : z = n := by omega
                  subst this; simp_all
              refine hE.same j hj hjo ?_
              rcases hor with h | ⟨z, hz, hz1, hz2⟩
              · exact .inl h
              · exact .inr ⟨z, hz, hz1, hms z hz2⟩
            · intro j hj hji
              rw [gset_ne _ _ _ _ _ hji]
              by_cases hjo : j = o
              · subst hjo; rw [y2, hnum]; omega
              · exact hE.pos j hj hjo
          · rw [if_neg hpt] at hq
            have hF := p2 (by simpa using hpt)
            obtain ⟨pb, ps, po, pn⟩ := p
            dsimp only at hF p3 p4 p5 hq
            obtain ⟨rfl, rfl, hF3, hF4⟩ := hF
            obtain ⟨a, b, c, d, e⟩ := ih i ps po pn (by omega) p4 hr hi hM (fun x hx h => p3 x (hms x (h3 x hx h))) q hq
            refine ⟨fun h => ?_, fun h => ?_, fun x h => c x (p3 x (hms x h)), d, by omega⟩
            · have hE := a h
              obtain ⟨y, y1, y2, y3, y4, y5, y6⟩ := hE.me
              refine ⟨hE.hO, hE.hN, hE.rng, hE.fwd, hE.bwd, ⟨y, y1, y2, y3, by simp [y4], ?_, ?_⟩, fun z hz h => hE.keep z hz (p3 z (hms z h)), ?_, hE.pos⟩
              · cases hsy : seen.getD y false with
                | false => rfl
                | true => rw [p3 y (hms y hsy)] at y5; simp at y5
              · intro z hz he
                rcases y6 z hz he with h | h
                · exact .inl h
                · right
                  have hk := hE.keep z hz h
                  rw [he] at hk
                  exact h3 z hz hk.symm
              · intro j hj hji hor
                refine hE.same j hj hji ?_
                rcases hor with h | ⟨z, hz, hz1, hz2⟩
                · exact .inl h
                · exact .inr ⟨z, hz, hz1, p3 z (hms z hz2)⟩
            · have hG := b h
              refine ⟨hG.eo, hG.en, fun y hy => ?_, fun y hy hsy => ?_⟩
              · rcases List.mem_cons.1 hy with rfl | hy
                · rw [Int.toNat_natCast]
                  exact c n (p3 n (gset_eq _ _ _ _ (by omega)))
                · exact hG.all y hy
              · rcases hG.cl y hy hsy with h' | h'
                · rcases hF4 y hy h' with h'' | h''
                  · rw [gset _ _ _ _ _ (by omega)] at h''
                    split at h''
                    · rename_i hyn
                      subst hyn
                      right
                      refine ⟨by omega, ?_⟩
                      rw [ho, Int.toNat_natCast]
                      intro z hz
                      exact c _ (hF3 z hz)
                    · exact .inl h''
                  · exact .inr ⟨h''.1, fun z hz => c _ (h''.2 z hz)⟩
                · exact .inr h'

/-- numbers that no search leaves -/
def Closed (left : List (List Int)) (R : Nat) (D : Nat → Prop) (owner : List Int) : Prop := ∀ x, x < R → D x → 0 ≤ owner.getD x 0 ∧ ∀ y ∈ left.getD (owner.getD x 0).toNat [], D y.toNat

theorem augN_closed {left : List (List Int)} {R : Nat} (hL : LeftOK R left) {D : Nat → Prop} : ∀ (f : Nat) (xs : List Int) (i : Nat) (seen : List Bool) (owner number : List Int), (∀ x ∈ xs, 0 ≤ x ∧ x < R) → Closed left R D owner →
    ((∀ x ∈ xs, D x.toNat) → (augN left f xs i seen owner number).1 = false) ∧ ∀ x, x < R → D x → (augN left f xs i seen owner number).2.2.1.getD x 0 = owner.getD x 0 := by
  intro f
  induction f using Nat.strongRecOn with
  | _ f ihf =>
    intro xs
    induction xs with
    | nil => intro i seen owner number _ hC; rw [augN.eq_def]; exact ⟨fun _ => rfl, fun _ _ _ => rfl⟩
    | cons x r ih =>
      intro i seen owner number hx hC
      have hr : ∀ x ∈ r, 0 ≤ x ∧ x < R := fun y hy => hx y (by simp [hy])
      have hx1 := hx x (by simp)
      rw [augN.eq_def]
      simp only
      split
      · obtain ⟨a, b⟩ := ih i seen owner number hr hC
        exact ⟨fun h => a fun y hy => h y (by simp [hy]), b⟩
      · split
        · rename_i h1 h2
          refine ⟨fun h => ?_, fun y hy hD => ?_⟩
          · have := (hC x.toNat (by omega) (h x (by simp))).1; omega
          · rw [gset_ne]
            intro e; subst e
            have := (hC _ hy hD).1; omega
        · cases f with
          | zero => exact ⟨fun _ => rfl, fun _ _ _ => rfl⟩
          | succ f' =>
            obtain ⟨a, b⟩ := ihf f' (by omega) (left.getD (owner.getD x.toNat 0).toNat []) (owner.getD x.toNat 0).toNat (seen.set x.toNat true) owner number (hL.get _).2 hC
            simp only
            generalize augN left f' (left.getD (owner.getD x.toNat 0).toNat []) (owner.getD x.toNat 0).toNat (seen.set x.toNat true) owner number = p at a b ⊢
            have hC' : Closed left R D p.2.2.1 := by
              intro y hy hD
              rw [b y hy hD]
              exact hC y hy hD
            split
            · rename_i hp
              refine ⟨fun h => ?_, fun y hy hD => ?_⟩
              · have := a (hC x.toNat (by omega) (h x (by simp))).2
                simp_all
              · dsimp only
                rw [gset_ne]
                · exact b y hy hD
                · intro e; subst e
                  have := a (hC _ hy hD).2
                  simp_all
            · obtain ⟨c, d⟩ := ih i p.2.1 p.2.2.1 p.2.2.2 hr hC'
              exact ⟨fun h => c fun y hy => h y (by simp [hy]), fun y hy hD => (d y hy hD).trans (b y hy hD)⟩
end T
