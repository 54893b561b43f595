import Derived.Test.YtncfieaimmpapaaL20
import Derived.Test.YtncfieaimmpapaaL24
set_option linter.unusedVariables false
set_option linter.unusedSimpArgs false
open Go Go.Am Go.Proofs
open Nat (reduceEqDiff reduceAdd reduceLeDiff reduceMul)
open Int (reduceNeg reduceLE reduceToNat)
set_option maxRecDepth 20000
namespace T
theorem laL_ok {m : Mdl} {n len : Nat} (hn : 0 < n) : ∀ (f k : Nat) (s : LaS), LaI m n len s → LaI m n len (laL m f k s)
  | 0, _, _, h => h
  | f + 1, k, s, h => laL_ok hn f (k + 1) _ (h.step hn k)
def eP3 (p : Int × Int × Int) : List AV := [.lit (.int .i64 p.1), .lit (.int .i64 p.2.1), .lit (.int .i64 p.2.2)]
instance : Row eP3 3 := ⟨fun _ => rfl, fun x v hv => by
  simp only [eP3, List.mem_cons, List.not_mem_nil, or_false] at hv
  rcases hv with rfl | rfl | rfl <;> exact .inl ⟨_, rfl, rfl⟩⟩
end T

