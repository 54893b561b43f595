import Derived.Test.YtohdbmmapbaalaaC6
set_option linter.unusedVariables false
set_option linter.unusedSimpArgs false
open Go Go.Am Go.Proofs
namespace T
end T

