import Derived.Test.YtjbfepcaobnbpaaGreatDoorX22
import Derived.Test.YtjbfepcaobnbpaaGreatDoorX23
import Derived.Test.YtjbfepcaobnbpaaGreatDoorX24
import Derived.Test.YtjbfepcaobnbpaaGreatDoorX25
import Derived.Test.YtjbfepcaobnbpaaGreatDoorX28
import Derived.Test.YtjbfepcaobnbpaaGreatDoorX31
import Derived.Test.YtjbfepcaobnbpaaGreatDoorX34
import Derived.Test.YtjbfepcaobnbpaaGreatDoorX37
import Derived.KernelRfl
set_option linter.unusedVariables false
set_option linter.unusedSimpArgs false
set_option linter.unnecessarySimpa false
set_option linter.unusedSectionVars false
section
/- TopCrowd, all cases -/
open Go Go.Am
namespace Go.Am.T
open Go.Proofs
theorem e10 : endR 1 1 0 = some tT := by kernel_rfl
theorem e11 : endR 1 2 1 = some tT := by kernel_rfl
theorem e12 : endR 1 3 2 = some tT := by kernel_rfl
theorem e20 : endR 2 2 0 = some tT := by kernel_rfl
theorem e21 : endR 2 3 1 = some tT := by kernel_rfl
theorem e22 : endR 2 4 2 = some tT := by kernel_rfl
theorem e30 : endR 3 3 0 = some tT := by kernel_rfl
theorem e31 : endR 3 4 1 = some tT := by kernel_rfl
theorem e32 : endR 3 5 2 = some tT := by kernel_rfl
theorem e40 : endR 4 4 0 = some tT := by kernel_rfl
theorem e41 : endR 4 5 1 = some tT := by kernel_rfl
theorem e42 : endR 4 6 2 = some tT := by kernel_rfl
theorem e50 : endR 5 5 0 = some tT := by kernel_rfl
theorem e51 : endR 5 6 1 = some tT := by kernel_rfl
theorem e52 : endR 5 7 2 = some tT := by kernel_rfl
theorem top_ok (a b : Int) : Holds Tryz.prog 3 [I a, I b] [] tT [] := by
  have ha : a % 5 = 0 ∨ a % 5 = 1 ∨ a % 5 = 2 ∨ a % 5 = 3 ∨ a % 5 = 4 := by omega
  have hb : b % 3 = 0 ∨ b % 3 = 1 ∨ b % 3 = 2 := by omega
  rcases ha with ha | ha | ha | ha | ha
  · rcases hb with hb | hb | hb
    · exact top_of (r := 0) (n := 1) (c := 1) (k := 0) ha hb rfl (head_0 a b) case11 e10
    · exact top_of (r := 0) (n := 1) (c := 2) (k := 1) ha hb rfl (head_0 a b) case12 e11
    · exact top_of (r := 0) (n := 1) (c := 3) (k := 2) ha hb rfl (head_0 a b) case13 e12
  · rcases hb with hb | hb | hb
    · exact top_of (r := 1) (n := 2) (c := 2) (k := 0) ha hb rfl (head_1 a b) case22 e20
    · exact top_of (r := 1) (n := 2) (c := 3) (k := 1) ha hb rfl (head_1 a b) case23 e21
    · exact top_of (r := 1) (n := 2) (c := 4) (k := 2) ha hb rfl (head_1 a b) case24 e22
  · rcases hb with hb | hb | hb
    · exact top_of (r := 2) (n := 3) (c := 3) (k := 0) ha hb rfl (head_2 a b) case33 e30
    · exact top_of (r := 2) (n := 3) (c := 4) (k := 1) ha hb rfl (head_2 a b) case34 e31
    · exact top_of (r := 2) (n := 3) (c := 5) (k := 2) ha hb rfl (head_2 a b) case35 e32
  · rcases hb with hb | hb | hb
    · exact top_of (r := 3) (n := 4) (c := 4) (k := 0) ha hb rfl (head_3 a b) case44 e40
    · exact top_of (r := 3) (n := 4) (c := 5) (k := 1) ha hb rfl (head_3 a b) case45 e41
    · exact top_of (r := 3) (n := 4) (c := 6) (k := 2) ha hb rfl (head_3 a b) case46 e42
  · rcases hb with hb | hb | hb
    · exact top_of (r := 4) (n := 5) (c := 5) (k := 0) ha hb rfl (head_4 a b) case55 e50
    · exact top_of (r := 4) (n := 5) (c := 6) (k := 1) ha hb rfl (head_4 a b) case56 e51
    · exact top_of (r := 4) (n := 5) (c := 7) (k := 2) ha hb rfl (head_4 a b) case57 e52
end Go.Am.T
end
