import Derived.Test.YtkmfgcbdnijgeaaGreatX30
import Derived.Test.YtkmfgcbdnijgeaaGreatX06
set_option linter.unusedVariables false
set_option linter.unusedSimpArgs false
set_option linter.unnecessarySimpa false
set_option linter.unusedSectionVars false
set_option maxHeartbeats 64000000
set_option maxRecDepth 20000
open Go Go.Am Go.Proofs
open Nat (reduceEqDiff reduceAdd reduceLeDiff reduceMul)
open Int (reduceNeg reduceLE reduceToNat)
namespace T
theorem unB {P:Program} {N n0:Nat} {σ:St} {Q:Exit→St→Prop} {x:Code} {id:Nat} (h:∀ Q':Exit→St→Prop,(∀ s,Q .normal s→Q' .normal s)→W P N n0 x Q' σ):W P N n0 x (Bq id Q) σ:=h _ .n
theorem argsR_flat {σ:St} {kp:Nat→Prop}:∀ {l:List AV},(∀ v∈l,(∃ x,v=AV.lit x)∨∃ s r,v=AV.tree s r)→ArgsR (Frz σ kp) l l
  | [],_=>trivial
  | v::l,h=>⟨by rcases h v (by simp) with ⟨x,rfl⟩ | ⟨s,r,rfl⟩;exact .lit _;exact .tree _ _,argsR_flat fun x hx=>h x (by simp[hx])⟩
theorem rowsR_flat {σ:St} {kp:Nat→Prop}:∀ {rows:List (List AV)},(∀ row∈rows,∀ v∈row,(∃ x,v=AV.lit x)∨∃ s r,v=AV.tree s r)→RowsR (Frz σ kp) rows rows
  | [],_=>trivial
  | r::rows,h=>⟨argsR_flat (h r (by simp)),rowsR_flat fun x hx=>h x (by simp[hx])⟩
theorem rowsR_app {R:AV→AV→Prop}:∀ {a c:List (List AV)} {b d:List (List AV)},RowsR R a c→RowsR R b d→RowsR R (a++b) (c++d)
  | [],[],_,_,_,k=>k
  | _::_,_::_,_,_,h,k=>⟨h.1,rowsR_app h.2 k⟩
  | [],_::_,_,_,h,_=>h.elim
  | _::_,[],_,_,h,_=>h.elim
structure OM (m:Mdl):Prop where
  mb:MB m
  few:m.cls.length≤25
  opt:∀ l∈m.cls,l.length≤25
theorem OM.rules {m:Mdl} (h:OM m) (r:Int):OM ⟨m.cls,m.prs,m.cts,r⟩:=⟨⟨h.mb.cls,h.mb.opt,h.mb.ch,h.mb.prs,h.mb.tab,h.mb.cts,h.mb.lds⟩,h.few,h.opt⟩
theorem OM.prs {m:Mdl} (h:OM m) {l:List Pr} (h1:l.length<9223372036854775808) (h2:∀ p∈l,p.tab.length<9223372036854775808):OM ⟨m.cls,l,m.cts,m.rules⟩:=⟨⟨h.mb.cls,h.mb.opt,h.mb.ch,h1,h2,h.mb.cts,h.mb.lds⟩,h.few,h.opt⟩
theorem OM.cts {m:Mdl} (h:OM m) {l:List Ct} (h1:l.length<9223372036854775808) (h2:∀ p∈l,p.loads.length<9223372036854775808):OM ⟨m.cls,m.prs,l,m.rules⟩:=⟨⟨h.mb.cls,h.mb.opt,h.mb.ch,h.mb.prs,h.mb.tab,h1,h2⟩,h.few,h.opt⟩
theorem OM.cls {m:Mdl} (h:OM m) {l:List (List Opt)} (h1:l.length≤25) (h2:∀ x∈l,x.length≤25∧∀ o∈x,o.ch.length<9223372036854775808):OM ⟨l,m.prs,m.cts,m.rules⟩ :=
  ⟨⟨by dsimp only;omega,fun x hx=>by have:=(h2 x hx).1;omega,fun x hx=>(h2 x hx).2,h.mb.prs,h.mb.tab,h.mb.cts,h.mb.lds⟩,h1,fun x hx=>(h2 x hx).1⟩
end T

