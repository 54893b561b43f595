import Derived.Test.YtafhoboejkcmiaaGreatX31
set_option linter.unusedVariables false
set_option linter.unusedSimpArgs false
set_option linter.unnecessarySimpa false
set_option linter.unusedSectionVars false
set_option maxHeartbeats 64000000
set_option maxRecDepth 20000
open Go Go.Am Go.Proofs
open Nat (reduceEqDiff reduceAdd reduceLeDiff reduceMul)
open Int (reduceNeg reduceLE reduceToNat)
namespace T
def eIt (x:It):List AV:=[.lit (.int .i64 x.cls),.lit (.int .i64 x.opt),.lit (.int .i64 x.near)]
instance:Row eIt 3:=⟨fun _=>rfl,fun _=>rowOk rfl⟩
def downX {α:Type} [Inhabited α] (lt:α→α→Bool):Nat→List α→Nat→Nat→Nat
  | 0,_,i,_=>i
  | f+1,l,i,n=>if n≤2 * i+1 then i else if lt (l.getD (kidL lt l i n) default) (l.getD i default)=true then downX lt f (swapL l i (kidL lt l i n)) (kidL lt l i n) n else i
theorem it_set (L:List It) (i:Nat) (x:It):(rowsOf eIt L).set i [.lit (.int .i64 x.cls),.lit (.int .i64 x.opt),.lit (.int .i64 x.near)]=rowsOf eIt (L.set i x):=by
  unfold rowsOf
  rw[List.map_set];rfl
theorem wLen_ok (M:Nat) (rows:List (List AV)):Holds Tryz.prog 145 [.ref 0 3 0 M] [.arr 3 rows] (.lit (.int .i64 M)) [.arr 3 rows]:=by
  refine Holds.of_body' (fn:=Tryz.f145) 5 1 [.tmp 2] Tryz.func145 rfl rfl rfl rfl rfl (by simp) ?_
  ((try revert hK K);(repeat' (first|refine Vb X0 ?_|(refine V2 X0 ?_ ?_<;>try with_reducible intro hb)|(refine Xi ?_ ?_<;>try intro ht)|refine VD ?_ ?_|exact Xx|fail))<;>try with_reducible intro K hK)
  exact RetOK_all rfl (Nat.le_refl _) rfl
theorem wSwap_ok (M:Nat) (L:List It) (i j:Nat) (hi:i<M) (hj:j<M) (hM:M≤L.length):Holds Tryz.prog 147 [.ref 0 3 0 M,.lit (.int .i64 i),.lit (.int .i64 j)] [.arr 3 (rowsOf eIt L)] (.tup []) [.arr 3 (rowsOf eIt (swapL L i j))]:=by
  unfold swapL
  have hl2:(L.set i (L.getD j default)).length=L.length:=List.length_set
  refine Holds.of_body' (fn:=Tryz.f147) 20 1 [] Tryz.func147 rfl rfl rfl rfl rfl (by simp) ?_
  ((try revert hK K);(repeat' (first|refine Vb (X2 @eIt.eq_1 @it_set) ?_|(refine V2 (X2 @eIt.eq_1 @it_set) ?_ ?_<;>try with_reducible intro hb)|(refine Xi ?_ ?_<;>try intro ht)|refine VD ?_ ?_|exact Xx|fail))<;>try with_reducible intro K hK)
  exact RetOK_all rfl (Nat.le_refl _) rfl
theorem wLess_ok (M:Nat) (L:List It) (i j:Nat) (hi:i<M) (hj:j<M) (hM:M≤L.length):Holds Tryz.prog 146 [.ref 0 3 0 M,.lit (.int .i64 i),.lit (.int .i64 j)] [.arr 3 (rowsOf eIt L)] (.lit (.bool (ltI (L.getD i default) (L.getD j default)))) [.arr 3 (rowsOf eIt L)]:=by
  unfold ltI
  have hor:=or_ok [cmp3 (L.getD i default).opt (L.getD j default).opt,cmp3 (L.getD j default).near (L.getD i default).near,cmp3 (L.getD i default).cls (L.getD j default).cls] (by simp)
  generalize orL [cmp3 (L.getD i default).opt (L.getD j default).opt,cmp3 (L.getD j default).near (L.getD i default).near,cmp3 (L.getD i default).cls (L.getD j default).cls]=res at *
  generalize hx:L.getD i default=x at *
  generalize hy:L.getD j default=y at *
  have c1:=compare_ok x.opt y.opt
  have c2:=compare_ok y.near x.near
  have c3:=compare_ok x.cls y.cls
  refine Holds.of_body' (fn:=Tryz.f146) 35 1 [.tmp 6] Tryz.func146 rfl rfl rfl rfl rfl (by simp) ?_
  ((try revert hK K);(repeat' (first|refine Vb X0 ?_|(refine V2 X0 ?_ ?_<;>try with_reducible intro hb)|(refine Xi ?_ ?_<;>try intro ht)|refine VD ?_ ?_|exact Xx|fail))<;>try with_reducible intro K hK)
  refine unSq ?_;intro Q hn he
  refine join_here ⟨slots [(7,.ptr 1 0 0),(8,.ptr 2 0 0)],[.arr 3 (rowsOf eIt L),.var (eIt x),.var (eIt y)]⟩ hn ?_ (fun key=>?_)
  rotate_left
  · refine W_draw [] (.take 0 (.take 1 (.take 2 (.take 3 (.take 4 (.take 5 (.take 6 (.three 7 (.both 8 (.take 9 (.take 10 (.take 11 .nil))) 9 (.take 8 (.take 10 (.take 11 .nil)))) 8 (.both 7 (.take 9 (.take 10 (.take 11 .nil))) 9 (.both 7 (.take 10 (.take 11 .nil)) 10 (.take 7 (.take 11 .nil)))) 9 (.both 7 (.take 8 (.take 10 (.take 11 .nil))) 8 (.both 7 (.take 10 (.take 11 .nil)) 10 (.take 7 (.take 11 .nil)))))))))))) rfl (by decide) (by decide +kernel) ?_
    simp (disch:=omega) only[Ac,↓Pc,simprocAttr,Pw,eIt,hx,hy]
    repeat' (first|with_reducible refine And.intro ?_ ?_|omega|with_reducible rfl)
    all_goals
      refine key _ ?_
      first|((refine Turns.slots _ _ rfl ?_;simp only[Tc,↓reduceIte,reduceEqDiff,Nat.reduceBEq,reduceAdd,eIt];try trivial);done)|((refine Turns.se [0,1,2] false (by simp only[Oc,simprocAttr,eIt]) ?_;simp only[Hr,↓reduceIte,reduceEqDiff,Nat.reduceBEq,reduceAdd,eIt];try (and_intros<;>first|exact .pure rfl|exact .eq rfl|exact .fz rfl (by simp only[Bc,Rc])));done)|((refine Turns.se [0,2,1] false (by simp only[Oc,simprocAttr,eIt]) ?_;simp only[Hr,↓reduceIte,reduceEqDiff,Nat.reduceBEq,reduceAdd,eIt];try (and_intros<;>first|exact .pure rfl|exact .eq rfl|exact .fz rfl (by simp only[Bc,Rc])));done)
  (try clear hn;try clear he)
  ((try revert hK K);(repeat' (first|refine Vd @eIt.eq_1 (X3 c1 c2 c3) ?_|(refine V2 @eIt.eq_1 ?_ ?_<;>try with_reducible intro hb)|(refine Xi ?_ ?_<;>try intro ht)|refine VD ?_ ?_|exact Xx|fail))<;>try with_reducible intro K hK)
  (refine Xf [] (hor) ?_;simp (disch:=omega) only[Ac,↓Pc,simprocAttr])
  ((try revert hK K);(repeat' (first|refine Vb @eIt.eq_1 ?_|(refine V2 @eIt.eq_1 ?_ ?_<;>try with_reducible intro hb)|(refine Xi ?_ ?_<;>try intro ht)|refine VD ?_ ?_|exact Xx|fail))<;>try with_reducible intro K hK)
  exact Xw true [0] X0
theorem wPop_ok (k:Nat) (L:List It) (hk:k<L.length) (hL:L.length<1000):Holds Tryz.prog 148 [.ptr 0 0 0] [.var [.ref 1 3 0 (k+1)],.arr 3 (rowsOf eIt L)] (.ifc 106 (.agg (eIt (L.getD k default)))) [.var [.ref 1 3 0 k],.arr 3 (rowsOf eIt L)]:=by
  generalize hx:L.getD k default=x
  have e1:((k+1:Nat):Int) - 1=(k:Nat):=by omega
  refine Holds.of_body' (fn:=Tryz.f148) 23 2 [.tmp 2] Tryz.func148 rfl rfl rfl rfl rfl (by simp) ?_
  ((try revert hK K);(repeat' (first|refine Vb (X5 @e1 @hx @eIt.eq_1 @Option.map_none.{0,0} (X3 @Option.map_some.{0,0} @implies_true.{0} @Int.toNat_natCast)) ?_|(refine V2 (X5 @e1 @hx @eIt.eq_1 @Option.map_none.{0,0} (X3 @Option.map_some.{0,0} @implies_true.{0} @Int.toNat_natCast)) ?_ ?_<;>try with_reducible intro hb)|(refine Xi ?_ ?_<;>try intro ht)|refine VD ?_ ?_|exact Xx|fail))<;>try with_reducible intro K hK)
  exact Xw true [0,1] X0
end T

