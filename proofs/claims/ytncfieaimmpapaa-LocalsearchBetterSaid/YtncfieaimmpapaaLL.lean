import Derived.Test.YtncfieaimmpapaaLO
set_option linter.unusedVariables false
set_option linter.unusedSimpArgs false
open Go Go.Am
namespace T
def gN (x : Int) : Int := (1103515245 * x + 12345) % 2147483648
theorem gN_rg (x : Int) : 0 ≤ gN x ∧ gN x < 2147483648 := by unfold gN; omega
structure LaS where
  pl : List Int
  nw : SC
  ls : List SC
  bs : List Int
  lt : SC
  x : Int
def laC (s : LaS) : Nat := (gN s.x / 65536 % (s.pl.length : Int)).toNat
def laO (m : Mdl) (s : LaS) : Int := gN (gN s.x) / 65536 % ((m.cls.getD (laC s) default).length : Int)
def laT (m : Mdl) (s : LaS) : List Int := s.pl.set (laC s) (laO m s)
def laQ (m : Mdl) (k : Nat) (s : LaS) : Bool := scLess s.nw (scV m (laT m s)) && scLess (s.ls.getD (k % s.ls.length) (0, 0)) (scV m (laT m s))
def laP (m : Mdl) (k : Nat) (s : LaS) : List Int := if laQ m k s = true then s.pl else laT m s
def laN (m : Mdl) (k : Nat) (s : LaS) : SC := if laQ m k s = true then s.nw else scV m (laT m s)
def laStep (m : Mdl) (k : Nat) (s : LaS) : LaS :=
  ⟨laP m k s, laN m k s, s.ls.set (k % s.ls.length) (laN m k s), if scLess (laN m k s) s.lt = true then laP m k s else s.bs, if scLess (laN m k s) s.lt = true then laN m k s else s.lt, gN (gN s.x)⟩
def laL (m : Mdl) : Nat → Nat → LaS → LaS
  | 0, _, s => s
  | f + 1, k, s => laL m f (k + 1) (laStep m k s)
def la0 (m : Mdl) (plan : List Int) (seed : Int) (n : Nat) : LaS := ⟨plan, scV m plan, List.replicate n (scV m plan), plan, scV m plan, seed⟩
def lateV (m : Mdl) (plan : List Int) (seed len steps : Int) : List Int × Int :=
  if comV m plan ≠ 0 then ([], comV m plan) else if plan.length = 0 then ([], 16)
  else if seed < 0 ∨ seed ≥ 2147483648 ∨ len < 1 ∨ len > 64 ∨ steps < 0 ∨ steps > 65536 then ([], 3)
  else ((laL m steps.toNat 0 (la0 m plan seed len.toNat)).bs, 0)
structure LaI (m : Mdl) (n len : Nat) (s : LaS) : Prop where
  pl : FP m s.pl
  pn : s.pl.length = n
  bs : FP m s.bs
  bn : s.bs.length = n
  ln : s.ls.length = len
  x : 0 ≤ s.x ∧ s.x < 2147483648
  nw : s.nw = scV m s.pl
  lt : s.lt = scV m s.bs
theorem LaI.c {m : Mdl} {n len : Nat} {s : LaS} (h : LaI m n len s) (hn : 0 < n) : laC s < n ∧ (laC s : Int) = gN s.x / 65536 % (n : Int) := by
  have := h.pn
  unfold laC
  rw [this]
  have h1 := Int.emod_nonneg (gN s.x / 65536) (b := (n : Int)) (by omega)
  have h2 := Int.emod_lt_of_pos (gN s.x / 65536) (b := (n : Int)) (by omega)
  omega
theorem LaI.o {m : Mdl} {n len : Nat} {s : LaS} (h : LaI m n len s) (hn : 0 < n) : optB m (laC s : Nat) (laO m s) = true ∧ 0 < (m.cls.getD (laC s) default).length ∧ laC s < m.cls.length := by
  have hc := h.c hn
  have := h.pn
  have hg := h.pl.get (laC s) (by omega)
  rw [optB_iff] at hg ⊢
  rw [Int.toNat_natCast] at hg ⊢
  obtain ⟨h1, h2, h3, h4⟩ := hg
  have hl : 0 < (m.cls.getD (laC s) default).length := by omega
  unfold laO
  have k1 := Int.emod_nonneg (gN (gN s.x) / 65536) (b := ((m.cls.getD (laC s) default).length : Int)) (by omega)
  have k2 := Int.emod_lt_of_pos (gN (gN s.x) / 65536) (b := ((m.cls.getD (laC s) default).length : Int)) (by omega)
  exact ⟨⟨h1, h2, k1, by omega⟩, hl, by omega⟩
end T

