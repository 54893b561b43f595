import Derived.Test.YtodilglobhifaaaDoorXAA
set_option linter.all false
set_option maxHeartbeats 0
set_option maxRecDepth 20000
namespace T
section
variable {α:Type} [Inhabited α] (lt:α->α->Bool)
end
section
variable {α:Type} {lt:α->α->Bool}
structure Ord(lt:α->α->Bool):Prop where
 UP:∀ a b,lt a b=true->lt b a=false
 trans:∀ a b c,lt b a=false->lt c b=false->lt c a=false
end
section
variable {α:Type} [Inhabited α] {lt:α->α->Bool}
end
end T

