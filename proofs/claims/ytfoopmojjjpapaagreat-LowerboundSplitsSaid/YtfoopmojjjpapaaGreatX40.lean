import Derived.Test.YtfoopmojjjpapaaGreatX33
set_option linter.all false
set_option maxHeartbeats 0
set_option maxRecDepth 20000
open List renaming getElem_of_mem→kr,getD_eq_getElem?_getD→ay,getElem?_eq_getElem→bx
open Nat renaming zero_le→aP
open Go Go.Am Go.Proofs
namespace T
def ac6:DA [QM (-1),.lit (.slice none 0 0),.lit (.slice none 0 0),.lit (.slice none 0 0),.lit (.slice none 0 0)] (ax (eP [])) :=
 ⟨.inl rfl,.inr ⟨rfl,_,rfl⟩,.inr ⟨rfl,_,rfl⟩,.inr ⟨rfl,_,rfl⟩,.inr ⟨rfl,_,rfl⟩,trivial⟩
def pv(n:Nat):Ob:=.var [.ref 2 5 0 n]
def al3{m:ah}{x:List (List Bool)}(hm:VM m)(h:cK m x):BB x:=by
 have hc:=hm.cls;refine⟨by have:=h.1;omega,λr hr=>?_⟩;obtain⟨i,hi,rfl⟩:=kr hr;have h2:=h.2 i hi;have h3:=hm.opt _ (aF (l:=m.cls) (i:=i) (d:=default) (by have:=h.1;omega));rw[ay,bx hi,Option.getD_some]at h2;omega
def gz.pb{m:ah}(hm:VM m){P:List Nd}{Q:List Int->Prop}(h:gz m P Q 0 P.length [])(hn:P.length<=20000):PB P:=by
 have p9:∀ x∈P,x.kids.length<9223372036854775808/\x.df.length<9223372036854775808/\x.a8=[]/\x.cells=[]:=λx hx=>by
  obtain⟨i,hi,rfl⟩:=kr hx;have key:=h.flat i (aP _) hi;have e:nd P i=P[i]:=by unfold nd;rw[ay,bx hi];rfl
  rw[e]at key;have h2:=(h.D8 i (aP _) hi).1;rw[e]at h2;have:=Ft hm h2;exact⟨Ey,Ey,key.2.1,key.2.2⟩
 refine⟨Ey,λx hx=>(p9 x hx).1,λx hx=>(p9 x hx).2.1,λx hx=>?_,λx hx=>?_,λx hx l hl=>?_⟩
 ·rw[(p9 x hx).2.2.1];show 0<_;decide
 ·rw[(p9 x hx).2.2.2];show 0<_;decide
 ·rw[(p9 x hx).2.2.2]at hl;cases hl
end T

