import Derived.Test.YtodilglobhifaaaGreatDoorX33
set_option linter.all false
set_option maxHeartbeats 0
set_option maxRecDepth 20000
open Go Go.Am
namespace T
structure BdS where
 plan:List Int
 afg:List Int
 aside:List Bool
 u:Int->Int->Int
end T

