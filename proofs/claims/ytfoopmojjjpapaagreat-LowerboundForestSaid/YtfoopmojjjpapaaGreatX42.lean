import Derived.Test.YtfoopmojjjpapaaGreatX31
import Derived.Test.YtfoopmojjjpapaaGreatX41
import Derived.Test.YtfoopmojjjpapaaGreatX38
set_option linter.all false
set_option maxHeartbeats 0
set_option maxRecDepth 20000
open Nat renaming zero_le→aS
open Go Go.Am Go.Proofs
namespace T
def pv(n:Nat):Ob:=.var [.ref 2 5 0 n]
def jN.pb{m:aj}(hm:VM m){P:List Nd}{Q:List Int->Prop}(h:jN m P Q 0 P.length [])(hn:P.length<=20000):PB P:=by
 have Au:∀ x∈P,x.kids.length<9223372036854775808/\x.dW.length<9223372036854775808/\x.bj=[]/\x.cells=[]:=λx hx=>by
  obtain⟨i,hi,rfl⟩:=List.getElem_of_mem hx;have key:=h.flat i (aS _) hi;have e:nd P i=P[i]:=by unfold nd;rw[List.getD_eq_getElem?_getD,List.getElem?_eq_getElem hi];rfl
  rw[e]at key;have h2:=(h.CD i (aS _) hi).1;rw[e]at h2;have:=H8 hm h2;exact⟨CZ,CZ,key.2.1,key.2.2⟩
 refine⟨CZ,λx hx=>(Au x hx).1,λx hx=>(Au x hx).2.1,λx hx=>?_,λx hx=>?_,λx hx l hl=>?_⟩
 ·rw[(Au x hx).2.2.1];show 0<_;decide
 ·rw[(Au x hx).2.2.2];show 0<_;decide
 ·rw[(Au x hx).2.2.2]at hl;cases hl
end T

