import Derived.Test.YtodilglobhifaaaGreatDoorXAA
set_option linter.all false
set_option maxHeartbeats 0
set_option maxRecDepth 20000
namespace T
section
variable {α:Type} [Inhabited α] (lt:α->α->Bool)
end
section
variable {α:Type} {lt:α->α->Bool}
structure Ord(lt:α->α->Bool):Prop where
 adM:∀ a b,lt a b=true->lt b a=false
 trans:∀ a b c,lt b a=false->lt c b=false->lt c a=false
def Ord.irr(h:Ord lt)(a:α):lt a a=false:=by
 cases hh:lt a a
 ·rfl
 ·exact absurd ((h.adM a a hh).symm.trans hh) aac
end
section
variable {α:Type} [Inhabited α] {lt:α->α->Bool}
def Hp(lt:α->α->Bool)(l:List α)(s n:Nat):Prop:=∀ j,0<j->j<n->s<=(j-1)/2->lt (l.getD j default) (l.getD ((j-1)/2) default)=false
def Hp.root(ho:Ord lt){l:List α}{n:Nat}(h:Hp lt l 0 n):∀ j,j<n->lt (l.getD j default) (l.getD 0 default)=false:=by
 intro j
 induction j using Nat.strongRecOn with
 |ind j ih =>
  intro hj;by_cases h0:j=0
  ·subst h0;exact ho.irr _
  ·exact ho.trans _ _ _ (ih ((j-1)/2) Bv Bv) (h j Bv hj Bv)
end
end T

