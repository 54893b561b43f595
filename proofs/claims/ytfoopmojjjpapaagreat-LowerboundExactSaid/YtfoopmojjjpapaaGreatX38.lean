import Derived.Test.YtfoopmojjjpapaaGreatX30
import Derived.Test.YtfoopmojjjpapaaGreatX37
set_option linter.all false
set_option maxHeartbeats 0
set_option maxRecDepth 20000
open Nat renaming zero_le→aW
open Go Go.Am Go.Proofs
namespace T
def abU:Cj [Oi (-1),.lit (.slice none 0 0),.lit (.slice none 0 0),.lit (.slice none 0 0),.lit (.slice none 0 0)] (aM (eH [])) :=
 ⟨.inl rfl,.inr ⟨rfl,_,rfl⟩,.inr ⟨rfl,_,rfl⟩,.inr ⟨rfl,_,rfl⟩,.inr ⟨rfl,_,rfl⟩,trivial⟩
def pv(n:Nat):Ob:=.var [.ref 2 5 0 n]
def eS.pb{m:ah}(hm:VM m){P:List Nd}{Q:List Int->Prop}(h:eS m P Q 0 P.length [])(hn:P.length<=20000):PB P:=by
 have Ad:∀ x∈P,x.kids.length<9223372036854775808/\x.dT.length<9223372036854775808/\x.aT=[]/\x.cells=[]:=λx hx=>by
  obtain⟨i,hi,rfl⟩:=List.getElem_of_mem hx;have key:=h.flat i (aW _) hi;have e:nd P i=P[i]:=by unfold nd;rw[List.getD_eq_getElem?_getD,List.getElem?_eq_getElem hi];rfl
  rw[e]at key;have h2:=(h.B8 i (aW _) hi).1;rw[e]at h2;have:=GY hm h2;exact⟨AT,AT,key.2.1,key.2.2⟩
 refine⟨AT,λx hx=>(Ad x hx).1,λx hx=>(Ad x hx).2.1,λx hx=>?_,λx hx=>?_,λx hx l hl=>?_⟩
 ·rw[(Ad x hx).2.2.1];show 0<_;decide
 ·rw[(Ad x hx).2.2.2];show 0<_;decide
 ·rw[(Ad x hx).2.2.2]at hl;cases hl
end T

