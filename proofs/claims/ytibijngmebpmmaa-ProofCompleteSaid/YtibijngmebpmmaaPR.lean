import Derived.Test.YtibijngmebpmmaaPG
import Derived.Test.YtibijngmebpmmaaM18b
set_option linter.unusedVariables false
set_option linter.unusedSimpArgs false
set_option linter.unnecessarySimpa false
open Go Go.Am
namespace T
def szB (w:Nat):Nat→Nat
  | 0=>1
  | s+1=>1+w * szB w s
theorem szB_pos (w s:Nat):1≤szB w s:=by cases s<;>simp[szB]
structure GrowOK (m:Mdl) (L:List Int) (w:Nat) (s:Nat) (ab:List Int) (nodes:List Nd) (r:List Nd × Nat):Prop where
  k:r.2≤L.length
  lt:nodes.length<r.1.length
  le:r.1.length≤nodes.length+szB w s
  pre:∀ i,i<nodes.length→nd r.1 i=nd nodes i
  seg:Seg m r.1 (fun _=>True) nodes.length r.1.length ab
theorem nd_app {P:List Nd} {x:Nd} {i:Nat} (h:i<P.length):nd (P++[x]) i=nd P i:=by
  unfold nd
  rw[List.getD_eq_getElem?_getD,List.getElem?_append_left h,List.getD_eq_getElem?_getD]
theorem nd_last {P:List Nd} {x:Nd}:nd (P++[x]) P.length=x:=by
  unfold nd
  rw[List.getD_eq_getElem?_getD,List.getElem?_append_right (Nat.le_refl _)];simp
theorem nd_set {P:List Nd} {x:Nd} {i j:Nat} (h:j<P.length):nd (P.set j x) i=if i=j then x else nd P i:=by
  unfold nd
  rw[List.getD_eq_getElem?_getD,List.getElem?_set]
  by_cases e:j=i
  · subst e;rw[if_pos rfl,if_pos h,if_pos rfl];rfl
  · rw[if_neg e,if_neg (Ne.symm e),List.getD_eq_getElem?_getD]
end T

