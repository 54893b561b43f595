import Derived.Test.YtibijngmebpmmaaGreatPG
import Derived.Test.YtibijngmebpmmaaGreatM18b
set_option linter.unusedVariables false
set_option linter.unusedSimpArgs false
set_option linter.unnecessarySimpa false
open Go Go.Am
namespace T
def drawC (m:Mdl) (L:List Int) (k:Nat):Int:=nextV L k ((m.cls.length:Int)+1)
theorem drawC_rg (m:Mdl) (L:List Int) (k:Nat):0≤drawC m L k∧drawC m L k≤m.cls.length:=by
  have:=nextV_range (L:=L) (k:=k) (n:=(m.cls.length:Int)+1) (by omega)
  unfold drawC;omega
def szB (w:Nat):Nat→Nat
  | 0=>1
  | s+1=>1+w * szB w s
theorem szB_pos (w s:Nat):1≤szB w s:=by cases s<;>simp[szB]
structure GrowOK (m:Mdl) (L:List Int) (w:Nat) (s:Nat) (ab:List Int) (nodes:List Nd) (r:List Nd × Nat):Prop where
  k:r.2≤L.length
  lt:nodes.length<r.1.length
  le:r.1.length≤nodes.length+szB w s
  pre:∀ i,i<nodes.length→nd r.1 i=nd nodes i
  seg:Seg m r.1 (fun _=>True) nodes.length r.1.length ab
end T

