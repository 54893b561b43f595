import Derived.Test.YtmhloinjpcabcaaGreatX37
set_option linter.unusedVariables false
set_option linter.unusedSimpArgs false
set_option linter.unnecessarySimpa false
set_option linter.unusedSectionVars false
set_option maxHeartbeats 64000000
set_option maxRecDepth 20000
open Go Go.Am Go.Proofs
open Nat (reduceEqDiff reduceAdd reduceLeDiff reduceMul)
open Int (reduceNeg reduceLE reduceToNat)
namespace T
def eIt (x:It):List AV:=[.lit (.int .i64 x.cls),.lit (.int .i64 x.opt),.lit (.int .i64 x.near)]
instance:Row eIt 3:=⟨fun _=>rfl,fun _=>rowOk rfl⟩
def downX {α:Type} [Inhabited α] (lt:α→α→Bool):Nat→List α→Nat→Nat→Nat
  | 0,_,i,_=>i
  | f+1,l,i,n=>if n≤2 * i+1 then i else if lt (l.getD (kidL lt l i n) default) (l.getD i default)=true then downX lt f (swapL l i (kidL lt l i n)) (kidL lt l i n) n else i
theorem it_set (L:List It) (i:Nat) (x:It):(rowsOf eIt L).set i [.lit (.int .i64 x.cls),.lit (.int .i64 x.opt),.lit (.int .i64 x.near)]=rowsOf eIt (L.set i x):=by
  unfold rowsOf
  rw[List.map_set];rfl
theorem wLen_ok (M:Nat) (rows:List (List AV)):Holds Tryz.prog 145 [.ref 0 3 0 M] [.arr 3 rows] (.lit (.int .i64 M)) [.arr 3 rows]:=by
  refine Holds.of_body' (fn:=Tryz.f145) 5 1 [.tmp 2] Tryz.func145 rfl rfl rfl rfl rfl (by simp) ?_
  ((try revert hK K);(repeat' (first|refine Vb X0 ?_|(refine V2 X0 ?_ ?_<;>try with_reducible intro hb)|(refine Xi ?_ ?_<;>try intro ht)|refine VD ?_ ?_|exact Xx|fail))<;>try with_reducible intro K hK)
  exact RetOK_all rfl (Nat.le_refl _) rfl
theorem wSwap_ok (M:Nat) (L:List It) (i j:Nat) (hi:i<M) (hj:j<M) (hM:M≤L.length):Holds Tryz.prog 147 [.ref 0 3 0 M,.lit (.int .i64 i),.lit (.int .i64 j)] [.arr 3 (rowsOf eIt L)] (.tup []) [.arr 3 (rowsOf eIt (swapL L i j))]:=by
  unfold swapL
  have hl2:(L.set i (L.getD j default)).length=L.length:=List.length_set
  refine Holds.of_body' (fn:=Tryz.f147) 20 1 [] Tryz.func147 rfl rfl rfl rfl rfl (by simp) ?_
  ((try revert hK K);(repeat' (first|refine Vb (X2 @eIt.eq_1 @it_set) ?_|(refine V2 (X2 @eIt.eq_1 @it_set) ?_ ?_<;>try with_reducible intro hb)|(refine Xi ?_ ?_<;>try intro ht)|refine VD ?_ ?_|exact Xx|fail))<;>try with_reducible intro K hK)
  exact RetOK_all rfl (Nat.le_refl _) rfl
theorem wLess_ok (M:Nat) (L:List It) (i j:Nat) (hi:i<M) (hj:j<M) (hM:M≤L.length):Holds Tryz.prog 146 [.ref 0 3 0 M,.lit (.int .i64 i),.lit (.int .i64 j)] [.arr 3 (rowsOf eIt L)] (.lit (.bool (ltI (L.getD i default) (L.getD j default)))) [.arr 3 (rowsOf eIt L)]:=by
  unfold ltI
  have hor:=or_ok [cmp3 (L.getD i default).opt (L.getD j default).opt,cmp3 (L.getD j default).near (L.getD i default).near,cmp3 (L.getD i default).cls (L.getD j default).cls] (by simp)
  generalize orL [cmp3 (L.getD i default).opt (L.getD j default).opt,cmp3 (L.getD j default).near (L.getD i default).near,cmp3 (L.getD i default).cls (L.getD j default).cls]=res at *
  generalize hx:L.getD i default=x at *
  generalize hy:L.getD j default=y at *
  have c1:=compare_ok x.opt y.opt
  have c2:=compare_ok y.near x.near
  have c3:=compare_ok x.cls y.cls
  refine Holds.of_body' (fn:=Tryz.f146) 35 1 [.tmp 6] Tryz.func146 rfl rfl rfl rfl rfl (by simp) ?_
  ((try revert hK K);(repeat' (first|refine Vb X0 ?_|(refine V2 X0 ?_ ?_<;>try with_reducible intro hb)|(refine Xi ?_ ?_<;>try intro ht)|refine VD ?_ ?_|exact Xx|fail))<;>try with_reducible intro K hK)
  refine unSq ?_;intro Q hn he
  refine join_here ⟨slots [(7,.ptr 1 0 0),(8,.ptr 2 0 0)],[.arr 3 (rowsOf eIt L),.var (eIt x),.var (eIt y)]⟩ hn ?_ (fun key=>?_)
  rotate_left
  · refine W_draw [] (.take 0 (.take 1 (.take 2 (.take 3 (.take 4 (.take 5 (.take 6 (.three 7 (.both 8 (.take 9 (.take 10 (.take 11 .nil))) 9 (.take 8 (.take 10 (.take 11 .nil)))) 8 (.both 7 (.take 9 (.take 10 (.take 11 .nil))) 9 (.both 7 (.take 10 (.take 11 .nil)) 10 (.take 7 (.take 11 .nil)))) 9 (.both 7 (.take 8 (.take 10 (.take 11 .nil))) 8 (.both 7 (.take 10 (.take 11 .nil)) 10 (.take 7 (.take 11 .nil)))))))))))) rfl (by decide) (by decide +kernel) ?_
    simp (disch:=omega) only[Ac,↓Pc,simprocAttr,Pw,eIt,hx,hy]
    repeat' (first|with_reducible refine And.intro ?_ ?_|omega|with_reducible rfl)
    all_goals
      refine key _ ?_
      first|((refine Turns.slots _ _ rfl ?_;simp only[Tc,↓reduceIte,reduceEqDiff,Nat.reduceBEq,reduceAdd,eIt];try trivial);done)|((refine Turns.se [0,1,2] false (by simp only[Oc,simprocAttr,eIt]) ?_;simp only[Hr,↓reduceIte,reduceEqDiff,Nat.reduceBEq,reduceAdd,eIt];try (and_intros<;>first|exact .pure rfl|exact .eq rfl|exact .fz rfl (by simp only[Bc,Rc])));done)|((refine Turns.se [0,2,1] false (by simp only[Oc,simprocAttr,eIt]) ?_;simp only[Hr,↓reduceIte,reduceEqDiff,Nat.reduceBEq,reduceAdd,eIt];try (and_intros<;>first|exact .pure rfl|exact .eq rfl|exact .fz rfl (by simp only[Bc,Rc])));done)
  (try clear hn;try clear he)
  ((try revert hK K);(repeat' (first|refine Vd @eIt.eq_1 (X3 c1 c2 c3) ?_|(refine V2 @eIt.eq_1 ?_ ?_<;>try with_reducible intro hb)|(refine Xi ?_ ?_<;>try intro ht)|refine VD ?_ ?_|exact Xx|fail))<;>try with_reducible intro K hK)
  (refine Xf [] (hor) ?_;simp (disch:=omega) only[Ac,↓Pc,simprocAttr])
  ((try revert hK K);(repeat' (first|refine Vb @eIt.eq_1 ?_|(refine V2 @eIt.eq_1 ?_ ?_<;>try with_reducible intro hb)|(refine Xi ?_ ?_<;>try intro ht)|refine VD ?_ ?_|exact Xx|fail))<;>try with_reducible intro K hK)
  exact Xw true [0] X0
theorem wPop_ok (k:Nat) (L:List It) (hk:k<L.length) (hL:L.length<1000):Holds Tryz.prog 148 [.ptr 0 0 0] [.var [.ref 1 3 0 (k+1)],.arr 3 (rowsOf eIt L)] (.ifc 106 (.agg (eIt (L.getD k default)))) [.var [.ref 1 3 0 k],.arr 3 (rowsOf eIt L)]:=by
  generalize hx:L.getD k default=x
  have e1:((k+1:Nat):Int) - 1=(k:Nat):=by omega
  refine Holds.of_body' (fn:=Tryz.f148) 23 2 [.tmp 2] Tryz.func148 rfl rfl rfl rfl rfl (by simp) ?_
  ((try revert hK K);(repeat' (first|refine Vb (X5 @e1 @hx @eIt.eq_1 @Option.map_none.{0,0} (X3 @Option.map_some.{0,0} @implies_true.{0} @Int.toNat_natCast)) ?_|(refine V2 (X5 @e1 @hx @eIt.eq_1 @Option.map_none.{0,0} (X3 @Option.map_some.{0,0} @implies_true.{0} @Int.toNat_natCast)) ?_ ?_<;>try with_reducible intro hb)|(refine Xi ?_ ?_<;>try intro ht)|refine VD ?_ ?_|exact Xx|fail))<;>try with_reducible intro K hK)
  exact Xw true [0,1] X0
theorem hDown_ok (M n i0 f0:Nat) (L:List It) (hn:n≤M) (hM:M≤L.length) (hL:L.length<1000) (hi0:i0<1000) (hf0:n≤f0+i0) :
    Holds Tryz.prog 105 [.ifc 109 (.ptr 0 0 0),.lit (.int .i64 i0),.lit (.int .i64 n)] [.var [.ref 1 3 0 M],.arr 3 (rowsOf eIt L)]
      (.lit (.bool (decide (i0<downX ltI f0 L i0 n)))) [.var [.ref 1 3 0 M],.arr 3 (rowsOf eIt (downL ltI f0 L i0 n))]:=by
  generalize hr1:downX ltI f0 L i0 n=ix
  generalize hr2:downL ltI f0 L i0 n=R
  refine Holds.of_body' (fn:=Tryz.f105) 48 2 [.tmp 6] Tryz.func105 rfl rfl rfl rfl rfl (by simp) ?_
  ((try revert hK K);(repeat' (first|refine Vb X0 ?_|(refine V2 X0 ?_ ?_<;>try with_reducible intro hb)|(refine Xi ?_ ?_<;>try intro ht)|refine VD ?_ ?_|exact Xx|fail))<;>try with_reducible intro K hK)
  refine W_loopS (fun z:Nat × List It × Nat=>(⟨slots [(0,.ifc 109 (.ptr 0 0 0)),(1,.lit (.int .i64 i0)),(2,.lit (.int .i64 n)),(7,.lit (.int .i64 z.2.2))],[.var [.ref 1 3 0 M],.arr 3 (rowsOf eIt z.2.1)]⟩:St))
    (fun z=>n≤z.1+z.2.2∧z.2.1.length=L.length∧z.2.2<1000∧downX ltI z.1 z.2.1 z.2.2 n=ix∧downL ltI z.1 z.2.1 z.2.2 n=R) (fun z=>z.1) (f0,L,i0) ⟨hf0,rfl,hi0,hr1,hr2⟩ (Xv X0) ?_
  rintro ⟨f,l,i⟩ ⟨hf,hl,hi,hrx,hrl⟩ Ql hnl hel
  dsimp only at hf hl hi hrx hrl ⊢
  obtain ⟨j1,hj1⟩ :∃j1:Nat,j1=2 * i+1:=⟨_,rfl⟩
  have e1:2 * (i:Int)+1=(j1:Nat):=by omega
  have e2:(j1:Int)+1=((j1+1:Nat):Int):=by omega
  by_cases h1:n≤2 * i+1
  · have hd:downX ltI f l i n=i∧downL ltI f l i n=l:=by
      cases f with
      | zero=>exact⟨rfl,rfl⟩
      | succ f=>exact⟨by rw[downX,if_pos h1],by rw[downL,if_pos h1]⟩
    rw[hd.1] at hrx
    rw[hd.2] at hrl
    ((try revert hK K);(repeat' (first|refine Va @e1 ?_|(refine V2 @e1 ?_ ?_<;>try with_reducible intro hb)|(refine Xi ?_ ?_<;>try intro ht)|refine VD ?_ ?_|exact Xx|fail))<;>try with_reducible intro K hK)
    all_goals try (exfalso;omega)
    all_goals
      refine hel _ _ rfl ?_;clear hnl hel Ql
      repeat (first|refine Xu ?_)
      ((try revert hK K);(repeat' (first|refine Vb X0 ?_|(refine V2 X0 ?_ ?_<;>try with_reducible intro hb)|(refine Xi ?_ ?_<;>try intro ht)|refine VD ?_ ?_|exact Xx|fail))<;>try with_reducible intro K hK)
      rw[← hrx,← hrl]
      exact RetOK_all rfl (Nat.le_refl _) (by simp)
  · obtain ⟨f,rfl⟩ :∃g,f=g+1:=⟨f - 1,by omega⟩
    rw[downX,if_neg h1] at hrx
    rw[downL,if_neg h1] at hrl
    have hk2:=kidL_lt (lt:=ltI) (l:=l) h1
    have hk1:=kidL_gt (lt:=ltI) (l:=l) (i:=i) (n:=n)
    have hkd:kidL ltI l i n=if j1+1<n∧ltI (l.getD (j1+1) default) (l.getD j1 default)=true then j1+1 else j1:=by rw[hj1];rfl
    have hless:j1+1<n→_:=fun h=>wLess_ok M l (j1+1) j1 (by omega) (by omega) (by omega)
    have hle2:=wLess_ok M l (kidL ltI l i n) i (by omega) (by omega) (by omega)
    have hsw:=wSwap_ok M l i (kidL ltI l i n) (by omega) (by omega) (by omega)
    generalize ltI (l.getD (j1+1) default) (l.getD j1 default)=b at *
    have tail:True:=trivial
    by_cases h3:j1+1<n
    · have hless:=hless h3
      cases b
      · rw[if_neg (by simp)] at hkd
        ((try revert hK K);(repeat' (first|refine Va (X2 @e1 @e2) ?_|(refine V2 (X2 @e1 @e2) ?_ ?_<;>try with_reducible intro hb)|(refine Xi ?_ ?_<;>try intro ht)|refine VD ?_ ?_|exact Xx|fail))<;>try with_reducible intro K hK)
        all_goals try (exfalso;omega)
        (refine Xn [1] (hless) ?_;simp (disch:=omega) only[Ac,↓Pc,simprocAttr])
        repeat' (first|((fail_if_success (first|refine W_at 8 ?_|refine W_atE 8 ?_));refine Xr (X2 @e1 @e2) ?_;intro K hK)|refine Xo (X2 @e1 @e2) ?_|(refine hK _ ?_;clear hK K)|(refine Xg (X2 @e1 @e2) ?_ ?_<;>try intro hb)|(refine Xi ?_ ?_<;>try intro ht)|refine Xy ?_|refine Xd ?_ ?_|exact Xx|fail)
        all_goals try (exfalso;omega)
        refine W_turn (σ':=⟨slots [(0,.ifc 109 (.ptr 0 0 0)),(1,.lit (.int .i64 i0)),(2,.lit (.int .i64 n)),(7,.lit (.int .i64 i)),(9,.lit (.int .i64 (kidL ltI l i n:Nat)))],[.var [.ref 1 3 0 M],.arr 3 (rowsOf eIt l)]⟩) (by rw[hkd];exact Xv X0) ?_
        clear hless hkd e1 e2 tail
        generalize kidL ltI l i n=kd at *
        generalize ltI (l.getD kd default) (l.getD i default)=c at *
        cases c
        · rw[if_neg (by simp)] at hrx hrl
          ((try revert hK K);(repeat' (first|refine Va X0 ?_|(refine V2 X0 ?_ ?_<;>try with_reducible intro hb)|(refine Xi ?_ ?_<;>try intro ht)|refine VD ?_ ?_|exact Xx|fail))<;>try with_reducible intro K hK)
          (refine Xn [1] (hle2) ?_;simp (disch:=omega) only[Ac,↓Pc,simprocAttr])
          ((try revert hK K);(repeat' (first|refine Va X0 ?_|(refine V2 X0 ?_ ?_<;>try with_reducible intro hb)|(refine Xi ?_ ?_<;>try intro ht)|refine VD ?_ ?_|exact Xx|fail))<;>try with_reducible intro K hK)
          refine hel _ _ rfl ?_;clear hnl hel Ql
          repeat (first|refine Xu ?_)
          ((try revert hK K);(repeat' (first|refine Vb X0 ?_|(refine V2 X0 ?_ ?_<;>try with_reducible intro hb)|(refine Xi ?_ ?_<;>try intro ht)|refine VD ?_ ?_|exact Xx|fail))<;>try with_reducible intro K hK)
          rw[← hrx,← hrl]
          exact RetOK_all rfl (Nat.le_refl _) (by simp)
        · rw[if_pos rfl] at hrx hrl
          ((try revert hK K);(repeat' (first|refine Va X0 ?_|(refine V2 X0 ?_ ?_<;>try with_reducible intro hb)|(refine Xi ?_ ?_<;>try intro ht)|refine VD ?_ ?_|exact Xx|fail))<;>try with_reducible intro K hK)
          (refine Xn [1] (hle2) ?_;simp (disch:=omega) only[Ac,↓Pc,simprocAttr])
          ((try revert hK K);(repeat' (first|refine Va X0 ?_|(refine V2 X0 ?_ ?_<;>try with_reducible intro hb)|(refine Xi ?_ ?_<;>try intro ht)|refine VD ?_ ?_|exact Xx|fail))<;>try with_reducible intro K hK)
          (refine Xn [1] (hsw) ?_;simp (disch:=omega) only[Ac,↓Pc,simprocAttr])
          ((try revert hK K);(repeat' (first|refine Va X0 ?_|(refine V2 X0 ?_ ?_<;>try with_reducible intro hb)|(refine Xi ?_ ?_<;>try intro ht)|refine VD ?_ ?_|exact Xx|fail))<;>try with_reducible intro K hK)
          exact hnl _ (f,swapL l i kd,kd) ⟨by dsimp only;omega,by dsimp only;rw[swapL_len];exact hl,by dsimp only;omega,hrx,hrl⟩ (by dsimp only;omega) (Xv X0)
      · rw[if_pos ⟨h3,rfl⟩] at hkd
        ((try revert hK K);(repeat' (first|refine Va (X2 @e1 @e2) ?_|(refine V2 (X2 @e1 @e2) ?_ ?_<;>try with_reducible intro hb)|(refine Xi ?_ ?_<;>try intro ht)|refine VD ?_ ?_|exact Xx|fail))<;>try with_reducible intro K hK)
        all_goals try (exfalso;omega)
        (refine Xn [1] (hless) ?_;simp (disch:=omega) only[Ac,↓Pc,simprocAttr])
        repeat' (first|((fail_if_success (first|refine W_at 8 ?_|refine W_atE 8 ?_));refine Xr (X2 @e1 @e2) ?_;intro K hK)|refine Xo (X2 @e1 @e2) ?_|(refine hK _ ?_;clear hK K)|(refine Xg (X2 @e1 @e2) ?_ ?_<;>try intro hb)|(refine Xi ?_ ?_<;>try intro ht)|refine Xy ?_|refine Xd ?_ ?_|exact Xx|fail)
        all_goals try (exfalso;omega)
        refine W_turn (σ':=⟨slots [(0,.ifc 109 (.ptr 0 0 0)),(1,.lit (.int .i64 i0)),(2,.lit (.int .i64 n)),(7,.lit (.int .i64 i)),(9,.lit (.int .i64 (kidL ltI l i n:Nat)))],[.var [.ref 1 3 0 M],.arr 3 (rowsOf eIt l)]⟩) (by rw[hkd];exact Xv X0) ?_
        clear hless hkd e1 e2 tail
        generalize kidL ltI l i n=kd at *
        generalize ltI (l.getD kd default) (l.getD i default)=c at *
        cases c
        · rw[if_neg (by simp)] at hrx hrl
          ((try revert hK K);(repeat' (first|refine Va X0 ?_|(refine V2 X0 ?_ ?_<;>try with_reducible intro hb)|(refine Xi ?_ ?_<;>try intro ht)|refine VD ?_ ?_|exact Xx|fail))<;>try with_reducible intro K hK)
          (refine Xn [1] (hle2) ?_;simp (disch:=omega) only[Ac,↓Pc,simprocAttr])
          ((try revert hK K);(repeat' (first|refine Va X0 ?_|(refine V2 X0 ?_ ?_<;>try with_reducible intro hb)|(refine Xi ?_ ?_<;>try intro ht)|refine VD ?_ ?_|exact Xx|fail))<;>try with_reducible intro K hK)
          refine hel _ _ rfl ?_;clear hnl hel Ql
          repeat (first|refine Xu ?_)
          ((try revert hK K);(repeat' (first|refine Vb X0 ?_|(refine V2 X0 ?_ ?_<;>try with_reducible intro hb)|(refine Xi ?_ ?_<;>try intro ht)|refine VD ?_ ?_|exact Xx|fail))<;>try with_reducible intro K hK)
          rw[← hrx,← hrl]
          exact RetOK_all rfl (Nat.le_refl _) (by simp)
        · rw[if_pos rfl] at hrx hrl
          ((try revert hK K);(repeat' (first|refine Va X0 ?_|(refine V2 X0 ?_ ?_<;>try with_reducible intro hb)|(refine Xi ?_ ?_<;>try intro ht)|refine VD ?_ ?_|exact Xx|fail))<;>try with_reducible intro K hK)
          (refine Xn [1] (hle2) ?_;simp (disch:=omega) only[Ac,↓Pc,simprocAttr])
          ((try revert hK K);(repeat' (first|refine Va X0 ?_|(refine V2 X0 ?_ ?_<;>try with_reducible intro hb)|(refine Xi ?_ ?_<;>try intro ht)|refine VD ?_ ?_|exact Xx|fail))<;>try with_reducible intro K hK)
          (refine Xn [1] (hsw) ?_;simp (disch:=omega) only[Ac,↓Pc,simprocAttr])
          ((try revert hK K);(repeat' (first|refine Va X0 ?_|(refine V2 X0 ?_ ?_<;>try with_reducible intro hb)|(refine Xi ?_ ?_<;>try intro ht)|refine VD ?_ ?_|exact Xx|fail))<;>try with_reducible intro K hK)
          exact hnl _ (f,swapL l i kd,kd) ⟨by dsimp only;omega,by dsimp only;rw[swapL_len];exact hl,by dsimp only;omega,hrx,hrl⟩ (by dsimp only;omega) (Xv X0)
    · rw[if_neg (fun h=>h3 h.1)] at hkd
      repeat' (first|((fail_if_success (first|refine W_at 8 ?_|refine W_atE 8 ?_));refine Xr (X2 @e1 @e2) ?_;intro K hK)|refine Xo (X2 @e1 @e2) ?_|(refine hK _ ?_;clear hK K)|(refine Xg (X2 @e1 @e2) ?_ ?_<;>try intro hb)|(refine Xi ?_ ?_<;>try intro ht)|refine Xy ?_|refine Xd ?_ ?_|exact Xx|fail)
      all_goals try (exfalso;omega)
      refine W_turn (σ':=⟨slots [(0,.ifc 109 (.ptr 0 0 0)),(1,.lit (.int .i64 i0)),(2,.lit (.int .i64 n)),(7,.lit (.int .i64 i)),(9,.lit (.int .i64 (kidL ltI l i n:Nat)))],[.var [.ref 1 3 0 M],.arr 3 (rowsOf eIt l)]⟩) (by rw[hkd];exact Xv X0) ?_
      clear hless hkd e1 e2 tail
      generalize kidL ltI l i n=kd at *
      generalize ltI (l.getD kd default) (l.getD i default)=c at *
      cases c
      · rw[if_neg (by simp)] at hrx hrl
        ((try revert hK K);(repeat' (first|refine Va X0 ?_|(refine V2 X0 ?_ ?_<;>try with_reducible intro hb)|(refine Xi ?_ ?_<;>try intro ht)|refine VD ?_ ?_|exact Xx|fail))<;>try with_reducible intro K hK)
        (refine Xn [1] (hle2) ?_;simp (disch:=omega) only[Ac,↓Pc,simprocAttr])
        ((try revert hK K);(repeat' (first|refine Va X0 ?_|(refine V2 X0 ?_ ?_<;>try with_reducible intro hb)|(refine Xi ?_ ?_<;>try intro ht)|refine VD ?_ ?_|exact Xx|fail))<;>try with_reducible intro K hK)
        refine hel _ _ rfl ?_;clear hnl hel Ql
        repeat (first|refine Xu ?_)
        ((try revert hK K);(repeat' (first|refine Vb X0 ?_|(refine V2 X0 ?_ ?_<;>try with_reducible intro hb)|(refine Xi ?_ ?_<;>try intro ht)|refine VD ?_ ?_|exact Xx|fail))<;>try with_reducible intro K hK)
        rw[← hrx,← hrl]
        exact RetOK_all rfl (Nat.le_refl _) (by simp)
      · rw[if_pos rfl] at hrx hrl
        ((try revert hK K);(repeat' (first|refine Va X0 ?_|(refine V2 X0 ?_ ?_<;>try with_reducible intro hb)|(refine Xi ?_ ?_<;>try intro ht)|refine VD ?_ ?_|exact Xx|fail))<;>try with_reducible intro K hK)
        (refine Xn [1] (hle2) ?_;simp (disch:=omega) only[Ac,↓Pc,simprocAttr])
        ((try revert hK K);(repeat' (first|refine Va X0 ?_|(refine V2 X0 ?_ ?_<;>try with_reducible intro hb)|(refine Xi ?_ ?_<;>try intro ht)|refine VD ?_ ?_|exact Xx|fail))<;>try with_reducible intro K hK)
        (refine Xn [1] (hsw) ?_;simp (disch:=omega) only[Ac,↓Pc,simprocAttr])
        ((try revert hK K);(repeat' (first|refine Va X0 ?_|(refine V2 X0 ?_ ?_<;>try with_reducible intro hb)|(refine Xi ?_ ?_<;>try intro ht)|refine VD ?_ ?_|exact Xx|fail))<;>try with_reducible intro K hK)
        exact hnl _ (f,swapL l i kd,kd) ⟨by dsimp only;omega,by dsimp only;rw[swapL_len];exact hl,by dsimp only;omega,hrx,hrl⟩ (by dsimp only;omega) (Xv X0)
theorem hInit_ok (M:Nat) (L:List It) (hM:M≤L.length) (hL:L.length<1000) :
    Holds Tryz.prog 72 [.ifc 109 (.ptr 0 0 0)] [.var [.ref 1 3 0 M],.arr 3 (rowsOf eIt L)] (.tup []) [.var [.ref 1 3 0 M],.arr 3 (rowsOf eIt (initL ltI (M / 2) L M))]:=by
  generalize hr1:initL ltI (M / 2) L M=R
  have hlen:=wLen_ok M (rowsOf eIt L)
  have e1:(M:Int).tdiv 2=((M / 2:Nat):Int):=by rw[Int.tdiv_eq_ediv_of_nonneg (by omega)];omega
  have e2:(M:Int) / 2=((M / 2:Nat):Int):=by omega
  refine Holds.of_body' (fn:=Tryz.f72) 17 2 [] Tryz.func72 rfl rfl rfl rfl rfl (by simp) ?_
  ((try revert hK K);(repeat' (first|refine Vb X0 ?_|(refine V2 X0 ?_ ?_<;>try with_reducible intro hb)|(refine Xi ?_ ?_<;>try intro ht)|refine VD ?_ ?_|exact Xx|fail))<;>try with_reducible intro K hK)
  (refine Xn [1] (hlen) ?_;simp (disch:=omega) only[Ac,↓Pc,simprocAttr])
  ((try revert hK K);(repeat' (first|refine Vb (X2 @e1 @e2) ?_|(refine V2 (X2 @e1 @e2) ?_ ?_<;>try with_reducible intro hb)|(refine Xi ?_ ?_<;>try intro ht)|refine VD ?_ ?_|exact Xx|fail))<;>try with_reducible intro K hK)
  refine W_loopS (fun z:Nat × List It=>(⟨slots [(0,.ifc 109 (.ptr 0 0 0)),(2,.lit (.int .i64 M)),(3,.lit (.int .i64 ((z.1:Int) - 1)))],[.var [.ref 1 3 0 M],.arr 3 (rowsOf eIt z.2)]⟩:St))
    (fun z=>z.1≤M∧z.2.length=L.length∧initL ltI z.1 z.2 M=R) (fun z=>z.1) (M / 2,L) ⟨by dsimp only;omega,rfl,hr1⟩ (Xv X0) ?_
  rintro ⟨k,l⟩ ⟨hk,hl,hr⟩ Ql hnl hel
  dsimp only at hk hl hr ⊢
  cases k with
  | zero =>
    rw[initL] at hr
    ((try revert hK K);(repeat' (first|refine Va X0 ?_|(refine V2 X0 ?_ ?_<;>try with_reducible intro hb)|(refine Xi ?_ ?_<;>try intro ht)|refine VD ?_ ?_|exact Xx|fail))<;>try with_reducible intro K hK)
    all_goals try (exfalso;omega)
    refine hel _ _ rfl ?_;clear hnl hel Ql
    repeat (first|refine Xu ?_)
    ((try revert hK K);(repeat' (first|refine Vb X0 ?_|(refine V2 X0 ?_ ?_<;>try with_reducible intro hb)|(refine Xi ?_ ?_<;>try intro ht)|refine VD ?_ ?_|exact Xx|fail))<;>try with_reducible intro K hK)
    all_goals first|exact RetOK_all rfl (Nat.le_refl _) rfl|(rw[← hr];exact RetOK_all rfl (Nat.le_refl _) rfl)
  | succ k =>
    rw[initL] at hr
    have e3:((k+1:Nat):Int) - 1=(k:Nat):=by omega
    have hd:=hDown_ok M M k M l (Nat.le_refl _) (by omega) (by omega) (by omega) (by omega)
    have hdl:=downL_len (lt:=ltI) M l k M (by omega)
    generalize downL ltI M l k M=l2 at *
    ((try revert hK K);(repeat' (first|refine Va @e3 ?_|(refine V2 @e3 ?_ ?_<;>try with_reducible intro hb)|(refine Xi ?_ ?_<;>try intro ht)|refine VD ?_ ?_|exact Xx|fail))<;>try with_reducible intro K hK)
    all_goals try (exfalso;omega)
    (refine Xn [0,1] (hd) ?_;simp (disch:=omega) only[Ac,↓Pc,simprocAttr])
    ((try revert hK K);(repeat' (first|refine Va @e3 ?_|(refine V2 @e3 ?_ ?_<;>try with_reducible intro hb)|(refine Xi ?_ ?_<;>try intro ht)|refine VD ?_ ?_|exact Xx|fail))<;>try with_reducible intro K hK)
    exact hnl _ (k,l2) ⟨by dsimp only;omega,by dsimp only;omega,hr⟩ (by dsimp only;omega) (Xv X0)
theorem hPop_ok (k f0:Nat) (L:List It) (hk:k<L.length) (hL:L.length<1000) (hf0:k≤f0) :
    Holds Tryz.prog 73 [.ifc 109 (.ptr 0 0 0)] [.var [.ref 1 3 0 (k+1)],.arr 3 (rowsOf eIt L)]
      (.ifc 106 (.agg (eIt ((downL ltI f0 (swapL L 0 k) 0 k).getD k default)))) [.var [.ref 1 3 0 k],.arr 3 (rowsOf eIt (downL ltI f0 (swapL L 0 k) 0 k))]:=by
  have hlen:=wLen_ok (k+1) (rowsOf eIt L)
  have e1:((k+1:Nat):Int) - 1=(k:Nat):=by omega
  have hsl:=swapL_len L 0 k
  have hsw:=wSwap_ok (k+1) L 0 k (by omega) (by omega) (by omega)
  have hd:=hDown_ok (k+1) k 0 f0 (swapL L 0 k) (by omega) (by omega) (by omega) (by omega) (by omega)
  have hdl:=downL_len (lt:=ltI) f0 (swapL L 0 k) 0 k (by omega)
  have hp:=wPop_ok k (downL ltI f0 (swapL L 0 k) 0 k) (by omega) (by omega)
  generalize downL ltI f0 (swapL L 0 k) 0 k=R at *
  generalize swapL L 0 k=S at *
  refine Holds.of_body' (fn:=Tryz.f73) 15 2 [.tmp 2] Tryz.func73 rfl rfl rfl rfl rfl (by simp) ?_
  ((try revert hK K);(repeat' (first|refine Vb X0 ?_|(refine V2 X0 ?_ ?_<;>try with_reducible intro hb)|(refine Xi ?_ ?_<;>try intro ht)|refine VD ?_ ?_|exact Xx|fail))<;>try with_reducible intro K hK)
  (refine Xn [1] (hlen) ?_;simp (disch:=omega) only[Ac,↓Pc,simprocAttr])
  ((try revert hK K);(repeat' (first|refine Vb @e1 ?_|(refine V2 @e1 ?_ ?_<;>try with_reducible intro hb)|(refine Xi ?_ ?_<;>try intro ht)|refine VD ?_ ?_|exact Xx|fail))<;>try with_reducible intro K hK)
  (refine Xn [1] (hsw) ?_;simp (disch:=omega) only[Ac,↓Pc,simprocAttr])
  ((try revert hK K);(repeat' (first|refine Vb X0 ?_|(refine V2 X0 ?_ ?_<;>try with_reducible intro hb)|(refine Xi ?_ ?_<;>try intro ht)|refine VD ?_ ?_|exact Xx|fail))<;>try with_reducible intro K hK)
  (refine Xn [0,1] (hd) ?_;simp (disch:=omega) only[Ac,↓Pc,simprocAttr])
  ((try revert hK K);(repeat' (first|refine Vb X0 ?_|(refine V2 X0 ?_ ?_<;>try with_reducible intro hb)|(refine Xi ?_ ?_<;>try intro ht)|refine VD ?_ ?_|exact Xx|fail))<;>try with_reducible intro K hK)
  (refine Xn [0,1] (hp) ?_;simp (disch:=omega) only[Ac,↓Pc,simprocAttr])
  ((try revert hK K);(repeat' (first|refine Vb X0 ?_|(refine V2 X0 ?_ ?_<;>try with_reducible intro hb)|(refine Xi ?_ ?_<;>try intro ht)|refine VD ?_ ?_|exact Xx|fail))<;>try with_reducible intro K hK)
  exact RetOK_all rfl (Nat.le_refl _) rfl
theorem swapL_app {l t:List It} {i j:Nat} (hi:i<l.length) (hj:j<l.length):swapL (l++t) i j=swapL l i j++t:=by
  unfold swapL
  rw[List.set_append_left _ _ hi,List.set_append_left _ _ (by simpa using hj)]
  simp only[List.getD_eq_getElem?_getD,List.getElem?_append_left hi,List.getElem?_append_left hj]
theorem downL_app:∀ (f:Nat) (l t:List It) (i n:Nat),n≤l.length→downL ltI f (l++t) i n=downL ltI f l i n++t
  | 0,l,t,i,n,h=>rfl
  | f+1,l,t,i,n,h=>by
    rw[downL,downL]
    by_cases h1:n≤2 * i+1
    · rw[if_pos h1,if_pos h1]
    · have hk2:=kidL_lt (lt:=ltI) (l:=l) h1
      have hg:∀ k,k<n→(l++t).getD k default=l.getD k default:=fun k hk=>by
        rw[List.getD_eq_getElem?_getD,List.getElem?_append_left (by omega),← List.getD_eq_getElem?_getD]
      have hkid:kidL ltI (l++t) i n=kidL ltI l i n:=by
        unfold kidL
        by_cases h2:2 * i+2<n
        · rw[hg _ h2,hg _ (by omega)]
        · rw[if_neg (fun h=>h2 h.1),if_neg (fun h=>h2 h.1)]
      rw[if_neg h1,if_neg h1,hkid,hg _ hk2,hg i (by omega),swapL_app (by omega) (by omega),downL_app f _ t _ _ (by rw[swapL_len];exact h)]
      split<;>rfl
theorem initL_app:∀ (k:Nat) (l t:List It) (n:Nat),n≤l.length→initL ltI k (l++t) n=initL ltI k l n++t
  | 0,l,t,n,h=>rfl
  | k+1,l,t,n,h=>by
    rw[initL,initL,downL_app _ _ _ _ _ h,initL_app k _ t n (by rw[downL_len _ _ _ _ h];exact h)]
end T

