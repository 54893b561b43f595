import Derived.Test.YtafhoboejkcmiaaGreatX42
set_option linter.unusedVariables false
set_option linter.unusedSimpArgs false
set_option linter.unnecessarySimpa false
set_option linter.unusedSectionVars false
set_option maxHeartbeats 64000000
set_option maxRecDepth 20000
open Go Go.Am Go.Proofs
open Nat (reduceEqDiff reduceAdd reduceLeDiff reduceMul)
open Int (reduceNeg reduceLE reduceToNat)
namespace T
def OutB (out:List Int) (B:Int):Prop:=∀ i,0≤out.getD i 0∧out.getD i 0≤B
theorem OutB.mono {out:List Int} {B C:Int} (h:OutB out B) (hb:B≤C):OutB out C:=fun i=>⟨(h i).1,by have:=(h i).2;omega⟩
theorem OutB.bump {out:List Int} {B:Int} (h:OutB out B) (i:Int):OutB (bump out i) (B+1):=fun k=>by
  unfold T.bump
  rcases Nat.lt_or_ge i.toNat out.length with hl | hl
  · rw[getD_set' _ _ _ _ _ hl]
    split
    · have:=h i.toNat;omega
    · have:=h k;omega
  · rw[List.set_eq_of_length_le hl]
    have:=h k;omega
theorem OutB.rep (n:Nat):OutB (List.replicate n 0) 0:=fun i=>by
  rw[List.getD_eq_getElem?_getD,List.getElem?_replicate];split<;>exact⟨Int.le_refl _,Int.le_refl _⟩
end T

