import Derived.Test.YtafhoboejkcmiaaX48
import Derived.Test.YtafhoboejkcmiaaX12
set_option linter.unusedVariables false
set_option linter.unusedSimpArgs false
set_option linter.unnecessarySimpa false
set_option linter.unusedSectionVars false
set_option maxHeartbeats 64000000
set_option maxRecDepth 20000
open Go Go.Am Go.Proofs
open Nat (reduceEqDiff reduceAdd reduceLeDiff reduceMul)
open Int (reduceNeg reduceLE reduceToNat)
namespace T
structure OM (m:Mdl):Prop where
  mb:MB m
  few:m.cls.length≤25
  opt:∀ l∈m.cls,l.length≤25
theorem OM.rules {m:Mdl} (h:OM m) (r:Int):OM ⟨m.cls,m.prs,m.cts,r⟩:=⟨⟨h.mb.cls,h.mb.opt,h.mb.ch,h.mb.prs,h.mb.tab,h.mb.cts,h.mb.lds⟩,h.few,h.opt⟩
theorem OM.prs {m:Mdl} (h:OM m) {l:List Pr} (h1:l.length<9223372036854775808) (h2:∀ p∈l,p.tab.length<9223372036854775808):OM ⟨m.cls,l,m.cts,m.rules⟩:=⟨⟨h.mb.cls,h.mb.opt,h.mb.ch,h1,h2,h.mb.cts,h.mb.lds⟩,h.few,h.opt⟩
theorem OM.cts {m:Mdl} (h:OM m) {l:List Ct} (h1:l.length<9223372036854775808) (h2:∀ p∈l,p.loads.length<9223372036854775808):OM ⟨m.cls,m.prs,l,m.rules⟩:=⟨⟨h.mb.cls,h.mb.opt,h.mb.ch,h.mb.prs,h.mb.tab,h1,h2⟩,h.few,h.opt⟩
theorem OM.cls {m:Mdl} (h:OM m) {l:List (List Opt)} (h1:l.length≤25) (h2:∀ x∈l,x.length≤25∧∀ o∈x,o.ch.length<9223372036854775808):OM ⟨l,m.prs,m.cts,m.rules⟩ :=
  ⟨⟨by dsimp only;omega,fun x hx=>by have:=(h2 x hx).1;omega,fun x hx=>(h2 x hx).2,h.mb.prs,h.mb.tab,h.mb.cts,h.mb.lds⟩,h1,fun x hx=>(h2 x hx).1⟩
end T

