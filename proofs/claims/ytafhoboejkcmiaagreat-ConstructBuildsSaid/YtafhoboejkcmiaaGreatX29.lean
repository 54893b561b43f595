import Derived.Test.YtafhoboejkcmiaaGreatX23
import Derived.Test.YtafhoboejkcmiaaGreatX22
import Derived.Test.YtafhoboejkcmiaaGreatX28
set_option linter.unusedVariables false
set_option linter.unusedSimpArgs false
set_option linter.unnecessarySimpa false
set_option linter.unusedSectionVars false
set_option maxHeartbeats 64000000
set_option maxRecDepth 20000
open Go Go.Am Go.Proofs
open Nat (reduceEqDiff reduceAdd reduceLeDiff reduceMul)
open Int (reduceNeg reduceLE reduceToNat)
namespace T
theorem cloneFInt_ok (xs:List Int) (hl:xs.length<549755813888):Holds Tryz.prog 31 [.tree 1 (ints xs)] [] (.tree 1 (ints xs)) []:=by
  rcases Nat.eq_zero_or_pos xs.length with h | h
  · obtain rfl:=List.eq_nil_of_length_eq_zero h
    refine Holds.empty (pre:=[]) (post:=[]) (fun a cap=>?_)
    rw[List.nil_append]
    cases a with
    | none =>
      refine Holds.of_body' (fn:=Tryz.f31) 8 0 [.tmp 2] Tryz.func31 rfl rfl rfl rfl rfl (by simp) ?_
      ((try revert hK K);(repeat' (first|refine Vb @Option.isNone_none.{0} ?_|(refine V2 @Option.isNone_none.{0} ?_ ?_<;>try with_reducible intro hb)|(refine Xi ?_ ?_<;>try intro ht)|refine VD ?_ ?_|exact Xx|fail))<;>try with_reducible intro K hK)
      all_goals first|(refine RetOK_sel [] true (by decide) trivial (by decide) (by decide) ?_;exact ArgR.nil)|(exfalso;simp at *;done)
    | some ad =>
      refine Holds.of_body' (fn:=Tryz.f31) 8 0 [.tmp 2] Tryz.func31 rfl rfl rfl rfl rfl (by simp) ?_
      refine W_region_k (by decide) ?_
      intro K hK
      simp (disch:=omega) only[Ac,↓Pc,simprocAttr]
      refine hK _ ?_
      clear hK K
      refine Wk ?_
      intro Q hn he
      ((first|refine W_region_k (by decide) ?_|refine W_draw_o rfl (by decide) (by decide +kernel) ?_);intro K hK;simp (disch:=omega) only[Ac,↓Pc,simprocAttr,Option.isNone_some];repeat' (first|with_reducible refine And.intro ?_ ?_|omega|with_reducible rfl));(refine hK _ ?_;clear hK K)
      refine W_cond (t:=false) (by simp only[LKc,Lc,↓reduceIte,Nat.reduceEqDiff,Nat.reduceBEq]) (fun ht=>by simp at ht) (fun ht=>?_)
      refine W_skip ?_
      refine hn _ ?_
      (try clear hn;try clear he;try clear Q;clear ht)
      refine W_turn (Turns.emptyV 0 1 (by (simp only[LKc,tys,Rc,↓reduceIte,Nat.reduceEqDiff,Nat.reduceBEq,ev,litOf,St.put];exact rfl))) ?_
      ((try revert hK K);(repeat' (first|refine Vb (X3 @List.length_nil.{0} @List.append_nil.{0} @List.all_nil.{0}) ?_|(refine V2 (X3 @List.length_nil.{0} @List.append_nil.{0} @List.all_nil.{0}) ?_ ?_<;>try with_reducible intro hb)|(refine Xi ?_ ?_<;>try intro ht)|refine VD ?_ ?_|exact Xx|fail))<;>try with_reducible intro K hK)
      refine RetOK_sel [] true (by decide) trivial (by decide) (by decide) ?_
      exact ArgR.frz (rows:=[]) rfl (by simp) rfl (not_kept (by decide)) (by simp)
  · refine Holds.of_body' (fn:=Tryz.f31) 8 0 [.tmp 2] Tryz.func31 rfl rfl rfl rfl rfl (by simp) ?_
    ((try revert hK K);(repeat' (first|refine Vb @ints_scal ?_|(refine V2 @ints_scal ?_ ?_<;>try with_reducible intro hb)|(refine Xi ?_ ?_<;>try intro ht)|refine VD ?_ ?_|exact Xx|fail))<;>try with_reducible intro K hK)
    exact Xw true [] X0
end T

