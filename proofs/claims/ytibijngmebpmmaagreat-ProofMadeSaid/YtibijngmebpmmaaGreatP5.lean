import Derived.Test.YtibijngmebpmmaaGreatP4
import Derived.Test.YtibijngmebpmmaaGreatPB
import Derived.Test.YtibijngmebpmmaaGreatDB
set_option linter.unusedVariables false
set_option linter.unusedSimpArgs false
set_option linter.unnecessarySimpa false
open Go Go.Am Go.Proofs
open Nat (reduceEqDiff reduceAdd reduceLeDiff reduceMul)
open Int (reduceNeg reduceLE reduceToNat)
set_option maxRecDepth 20000
namespace T
set_option maxHeartbeats 4000000 in
theorem cloneBs_ok (xs:List (List Bool)) (h:0<xs.length) (hl:xs.length<549755813888):Holds Tryz.prog 78 [.tree 1 (rowsOf eBs xs)] [] (.ref 0 1 0 xs.length) [.arr 1 (rowsOf eBs xs)]:=by
  refine Holds.of_body' (fn:=Tryz.f78) 8 0 [.tmp 2] Tryz.func78 rfl rfl rfl rfl rfl (by simp) ?_
  repeat' (first|(refine Xr X0 ?_;intro K hK)|refine Xo X0 ?_|(refine hK _ ?_;clear hK K)|(refine Xg X0 ?_ ?_<;>try intro hb)|(refine Xi ?_ ?_<;>try intro ht)|refine Xz ?_|refine Xh ?_|refine Xe ?_|refine Xd ?_ ?_|omega|with_reducible rfl|exact trivial)
  exact Xw false [1] X0
set_option maxHeartbeats 4000000 in
theorem cloneFB_ok (xs:List Bool) (hl:xs.length<549755813888):Holds Tryz.prog 34 [.tree 1 (bools xs)] [] (.tree 1 (bools xs)) []:=by
  rcases Nat.eq_zero_or_pos xs.length with h | h
  · obtain rfl:=List.eq_nil_of_length_eq_zero h
    refine Holds.empty (pre:=[]) (post:=[]) (fun a cap=>?_)
    rw[List.nil_append]
    cases a with
    | none =>
      refine Holds.of_body' (fn:=Tryz.f34) 8 0 [.tmp 2] Tryz.func34 rfl rfl rfl rfl rfl (by simp) ?_
      repeat' (first|(refine Xr @Option.isNone_none.{0} ?_;intro K hK)|refine Xo @Option.isNone_none.{0} ?_|(refine hK _ ?_;clear hK K)|(refine Xg @Option.isNone_none.{0} ?_ ?_<;>try intro hb)|(refine Xi ?_ ?_<;>try intro ht)|refine Xz ?_|refine Xh ?_|refine Xe ?_|refine Xd ?_ ?_|omega|with_reducible rfl|exact trivial)
      all_goals first|(refine RetOK_sel [] true (by decide) trivial (by decide) (by decide) ?_;exact ArgR.nil)|(exfalso;simp at *;done)
    | some ad =>
      refine Holds.of_body' (fn:=Tryz.f34) 8 0 [.tmp 2] Tryz.func34 rfl rfl rfl rfl rfl (by simp) ?_
      refine W_region_k (by decide) ?_
      intro K hK
      simp (disch:=omega) only[Ac,↓Pc,simprocAttr]
      refine hK _ ?_
      clear hK K
      refine Wk ?_
      intro Q hn he
      ((first|refine W_region_k (by decide) ?_|refine W_draw_o rfl (by decide) (by decide +kernel) ?_);intro K hK;simp (disch:=omega) only[Ac,↓Pc,simprocAttr,Option.isNone_some];repeat' (first|with_reducible refine And.intro ?_ ?_|omega|with_reducible rfl));(refine hK _ ?_;clear hK K)
      refine W_cond (t:=false) (by simp only[LKc,Lc,↓reduceIte,Nat.reduceEqDiff,Nat.reduceBEq]) (fun ht=>by simp at ht) (fun ht=>?_)
      refine W_skip ?_
      refine hn _ ?_
      clear ht
      refine W_turn (Turns.emptyV 0 1 (by (simp only[LKc,tys,Rc,↓reduceIte,Nat.reduceEqDiff,Nat.reduceBEq,ev,litOf,St.put];exact rfl))) ?_
      repeat' (first|(refine Xr (X3 @List.length_nil.{0} @List.append_nil.{0} @List.all_nil.{0}) ?_;intro K hK)|refine Xo (X3 @List.length_nil.{0} @List.append_nil.{0} @List.all_nil.{0}) ?_|(refine hK _ ?_;clear hK K)|(refine Xg (X3 @List.length_nil.{0} @List.append_nil.{0} @List.all_nil.{0}) ?_ ?_<;>try intro hb)|(refine Xi ?_ ?_<;>try intro ht)|refine Xz ?_|refine Xh ?_|refine Xe ?_|refine Xd ?_ ?_|omega|with_reducible rfl|exact trivial)
      refine RetOK_sel [] true (by decide) trivial (by decide) (by decide) ?_
      exact ArgR.frz (rows:=[]) rfl (by simp) rfl (not_kept (by decide)) (by simp)
  · refine Holds.of_body' (fn:=Tryz.f34) 8 0 [.tmp 2] Tryz.func34 rfl rfl rfl rfl rfl (by simp) ?_
    repeat' (first|(refine Xr @bools_scal ?_;intro K hK)|refine Xo @bools_scal ?_|(refine hK _ ?_;clear hK K)|(refine Xg @bools_scal ?_ ?_<;>try intro hb)|(refine Xi ?_ ?_<;>try intro ht)|refine Xz ?_|refine Xh ?_|refine Xe ?_|refine Xd ?_ ?_|omega|with_reducible rfl|exact trivial)
    exact Xw true [] X0
theorem cloneNil_ok:Holds Tryz.prog 40 [.lit (.slice none 0 0)] [] (.lit (.slice none 0 0)) []:=by
  refine Holds.of_body' (fn:=Tryz.f40) 8 0 [.tmp 2] Tryz.func40 rfl rfl rfl rfl rfl (by simp) ?_
  repeat' (first|(refine Xr @Option.isNone_none.{0} ?_;intro K hK)|refine Xo @Option.isNone_none.{0} ?_|(refine hK _ ?_;clear hK K)|(refine Xg @Option.isNone_none.{0} ?_ ?_<;>try intro hb)|(refine Xi ?_ ?_<;>try intro ht)|refine Xz ?_|refine Xh ?_|refine Xe ?_|refine Xd ?_ ?_|omega|with_reducible rfl|exact trivial)
  all_goals first|exact RetOK_pure' rfl rfl|(exfalso;simp at *;done)
set_option maxHeartbeats 4000000 in
theorem only_ok (left:List (List Bool)) (c o:Nat) (hc:c<left.length) (ho:o<(left.getD c default).length) (hl:left.length<549755813888) (hw:(left.getD c default).length<549755813888) :
    Holds Tryz.prog 39 [.tree 1 (rowsOf eBs left),.lit (.int .i64 c),.lit (.int .i64 o)] [] (.tree 1 (rowsOf eBs (onlyV left c o))) []:=by
  unfold onlyV
  have hset:∀ r:List AV,((rowsOf eBs left).set c r)[c]?=some r:=fun r=>by rw[List.getElem?_set,if_pos rfl,if_pos (by simpa [rowsOf] using hc)]
  have hsl:∀ r:List AV,((rowsOf eBs left).set c r).length=left.length:=fun r=>by simp[rowsOf]
  generalize hrr:left.getD c default=row at *
  have hrep:(List.replicate row.length false).length=row.length:=List.length_replicate
  refine Holds.of_body' (fn:=Tryz.f39) 26 0 [.tmp 6] Tryz.func39 rfl rfl rfl rfl rfl (by simp) ?_
  repeat' (first|(refine Xr X0 ?_;intro K hK)|refine Xo X0 ?_|(refine hK _ ?_;clear hK K)|(refine Xg X0 ?_ ?_<;>try intro hb)|(refine Xi ?_ ?_<;>try intro ht)|refine Xz ?_|refine Xh ?_|refine Xe ?_|refine Xd ?_ ?_|omega|with_reducible rfl|exact trivial)
  (refine Xn [] (cloneBs_ok left (by omega) hl) ?_;simp (disch:=omega) only[Ac,↓Pc,simprocAttr,Nat.sub_self,Nat.sub_zero])
  repeat' (first|(refine Xr (X5 @hrr @eBs.eq_1 @bools_rep @hset (X3 @hsl @hrep @bools_set)) ?_;intro K hK)|refine Xo (X5 @hrr @eBs.eq_1 @bools_rep @hset (X3 @hsl @hrep @bools_set)) ?_|(refine hK _ ?_;clear hK K)|(refine Xg (X5 @hrr @eBs.eq_1 @bools_rep @hset (X3 @hsl @hrep @bools_set)) ?_ ?_<;>try intro hb)|(refine Xi ?_ ?_<;>try intro ht)|refine Xz ?_|refine Xh ?_|refine Xe ?_|refine Xd ?_ ?_|omega|with_reducible rfl|exact trivial)
  refine RetOK_sel [] true (by decide) trivial (by decide) (by decide) (.snap _ _ rfl ?_)
  have hrl:(onlyR row.length o).length=row.length:=onlyR_len _ _
  exact frz_set (k:=1) (r:=onlyR row.length o) hc (by rw[hrl];rfl) (not_kept (by decide)) rfl (not_kept (by decide))
end T

