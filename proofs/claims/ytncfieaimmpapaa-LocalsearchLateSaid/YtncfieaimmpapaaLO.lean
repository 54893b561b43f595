import Derived.Test.YtncfieaimmpapaaL5
set_option linter.unusedVariables false
set_option linter.unusedSimpArgs false
open Go Go.Am
namespace T
structure BG (m : Mdl) (p : List Int) (z : BS) : Prop where
  no : z.2.2 = false → z.1 = scV m p
  yes : z.2.2 = true → scLess z.1 (scV m p) = true ∧ z.1 = scV m (p.set z.2.1.1.toNat z.2.1.2)
end T

