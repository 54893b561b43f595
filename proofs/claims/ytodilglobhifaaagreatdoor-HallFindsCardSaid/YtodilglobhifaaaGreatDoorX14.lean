import Derived.Test.YtodilglobhifaaaGreatDoorX13
set_option linter.all false
set_option maxHeartbeats 0
set_option maxRecDepth 20000
namespace Go.Am
variable {P:Program} {N n0:Nat} {σ:St} {Q:Exit->St->Prop}
def NR(v v':AV):Prop:=v'=v\/(v=.lit (.slice none 0 0)/\∃ s,v'=.tree s [])
def BN:List AV->List AV->Prop
 |[],[]=>True
 |c::cs,d::ds=>NR c d/\BN cs ds
 |_,_=>False
def BN.get:∀ {cs ds:List AV},BN cs ds->cs.length=ds.length/\∀ (j:Nat) d,ds[j]?=some d->∃ c,cs[j]?=some c/\NR c d
 |[],[],_=>⟨rfl,Dg⟩
 |c::cs,d::ds,h=>by
  obtain⟨a,b⟩:=BN.get h.2;refine⟨by simp[a],λj d' hd=>?_⟩;cases j with
  |zero=>simp at hd;subst hd;exact⟨c,rfl,h.1⟩
  |succ j=>exact b j d' (by simpa using hd)
 |[],_::_,h=>h.elim
 |_::_,[],h=>h.elim
end Go.Am

