import Derived.Test.YtmhloinjpcabcaaGreatX15
set_option linter.unusedVariables false
set_option linter.unusedSimpArgs false
set_option linter.unnecessarySimpa false
set_option linter.unusedSectionVars false
set_option maxHeartbeats 64000000
set_option maxRecDepth 20000
namespace Go.Am
variable {P:Program} {N n0:Nat} {σ:St} {Q:Exit→St→Prop}
def nilR (v v':AV):Prop:=v'=v∨(v=.lit (.slice none 0 0)∧∃ s,v'=.tree s [])
def RowN:List AV→List AV→Prop
  | [],[]=>True
  | c::cs,d::ds=>nilR c d∧RowN cs ds
  | _,_=>False
theorem RowN.get:∀ {cs ds:List AV},RowN cs ds→cs.length=ds.length∧∀ (j:Nat) d,ds[j]?=some d→∃ c,cs[j]?=some c∧nilR c d
  | [],[],_=>⟨rfl,by simp⟩
  | c::cs,d::ds,h=>by
    obtain ⟨a,b⟩:=RowN.get h.2
    refine⟨by simp[a],fun j d' hd=>?_⟩
    cases j with
    | zero=>simp at hd;subst hd;exact⟨c,rfl,h.1⟩
    | succ j=>exact b j d' (by simpa using hd)
  | [],_::_,h=>h.elim
  | _::_,[],h=>h.elim
end Go.Am

