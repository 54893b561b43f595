import Derived.Test.YtkmfgcbdnijgeaaGreatX21
set_option linter.unusedVariables false
set_option linter.unusedSimpArgs false
set_option linter.unnecessarySimpa false
set_option linter.unusedSectionVars false
set_option maxHeartbeats 64000000
set_option maxRecDepth 20000
open Go Go.Am Go.Proofs
open Nat (reduceEqDiff reduceAdd reduceLeDiff reduceMul)
open Int (reduceNeg reduceLE reduceToNat)
namespace T
theorem smallest_ok (l:List Nm) (s:List Bool) (hl:l.length=s.length) (hll:l.length<9223372036854775808):Holds Tryz.prog 121 [.tree 2 (rowsOf eNr l),.tree 1 (bools s)] [] (.tup [.lit (.int .i64 (lowN l s (0,false)).1),.lit (.bool (lowN l s (0,false)).2)]) []:=by
  refine Holds.of_body' (fn:=Tryz.f121) 47 0 [.tmp 4,.tmp 5] Tryz.func121 rfl rfl rfl rfl rfl (by simp) ?_
  refine Vb X0 ?_
  refine W_loopS (fun i:Nat=>(⟨slots [(0,.tree 2 (rowsOf eNr l)),(1,.tree 1 (bools s)),(6,.lit (.int .i64 (lowN (l.take i) (s.take i) (0,false)).1)),(7,.lit (.bool (lowN (l.take i) (s.take i) (0,false)).2)),(8,.lit (.int .i64 i))],[]⟩:St)) (fun i=>i≤l.length) (fun i=>l.length - i) 0 (Nat.zero_le _) (Xv (X2 @List.take_zero.{0} (X2 @lowN.eq_1 @lowN.eq_2))) ?_
  rintro i hi Ql hnl hel
  by_cases hi':i<l.length
  · have h1:=take_snoc hi'
    have h2:=take_snoc (l:=s) (k:=i) (by omega)
    have h3:=lowN_snoc (l.getD i default) (s.getD i default) (l.take i) (s.take i) (0,false) (by rw[List.length_take,List.length_take];omega)
    rw[← h1,← h2] at h3
    have hsd:s.getD i default=s.getD i false:=rfl
    rw[hsd] at h3
    generalize lowN (l.take i) (s.take i) (0,false)=b at *
    generalize hpp:l.getD i default=p at *
    generalize hss:s.getD i false=is at *
    unfold lowSt at h3
    obtain ⟨b1,b2⟩:=b
    obtain ⟨p1,p2⟩:=p
    dsimp only at h3 ⊢
    by_cases hlt:p1<b1
    all_goals
      cases is<;>cases p2<;>cases b2
    all_goals
      simp[hlt] at h3
      ((repeat' (first|refine Va (X3 @hpp @hss @eNr.eq_1) ?_|(refine Xi ?_ ?_<;>try intro ht)|exact Xx|fail)))
      all_goals
        refine hnl _ (i+1) (by omega) (by omega) ?_
        simp only[h3]
        exact Xv X0
  · ((repeat' (first|refine Va X0 ?_|(refine V2 X0 ?_ ?_<;>try with_reducible intro hb)|(refine Xi ?_ ?_<;>try intro ht)|exact Xx|fail)))
    refine hel _ _ rfl ?_;clear hnl hel Ql
    repeat (refine Xu ?_)
    rw[List.take_of_length_le (by omega),List.take_of_length_le (by omega)]
    refine Vb X0 ?_
    exact RetOK_pure' rfl rfl
theorem lowest_ok (l:List Nm) (hll:l.length<9223372036854775808):Holds Tryz.prog 133 [.tree 2 (rowsOf eNm l)] [] (.agg (eNm (lowA l))) []:=by
  refine Holds.of_body' (fn:=Tryz.f133) 30 0 [.cell 2 185] Tryz.func133 rfl rfl rfl rfl rfl (by simp) ?_
  refine Vb X0 ?_
  refine W_loopS (fun i:Nat=>(⟨slots [(2,.ptr 0 0 0),(3,.ptr 1 0 0),(7,.tree 2 (rowsOf eNm l)),(8,.lit (.int .i64 l.length)),(9,.lit (.int .i64 i))],[.var [.lit (.int .i64 0),.lit (.bool false)],.var (eNm (lowA (l.take i)))]⟩:St)) (fun i=>i≤l.length) (fun i=>l.length - i) 0 (Nat.zero_le _) (Xv @List.take_zero.{0}) ?_
  rintro i hi Ql hnl hel
  by_cases hi':i<l.length
  · have h1:=take_snoc hi'
    have h3:=lowA_snoc (l.take i) (l.getD i default)
    rw[← h1] at h3
    generalize lowA (l.take i)=b at *
    generalize hpp:l.getD i default=p at *
    unfold lowAs at h3
    obtain ⟨b1,b2⟩:=b
    obtain ⟨p1,p2⟩:=p
    dsimp only at h3 ⊢
    unfold eNm
    dsimp only
    by_cases hlt:p1<b1
    all_goals
      cases p2<;>cases b2
    all_goals
      simp[hlt] at h3
      ((repeat' (first|refine Va (X2 @hpp @eNm.eq_1) ?_|(refine Xi ?_ ?_<;>try intro ht)|exact Xx|fail)))
      all_goals
        refine hnl _ (i+1) (by omega) (by omega) ?_
        simp only[h3]
        exact Xs false [0,1] @eNm.eq_1
  · ((repeat' (first|refine Va @eNm.eq_1 ?_|(refine V2 @eNm.eq_1 ?_ ?_<;>try with_reducible intro hb)|(refine Xi ?_ ?_<;>try intro ht)|exact Xx|fail)))
    refine hel _ _ rfl ?_;clear hnl hel Ql
    repeat (refine Xu ?_)
    rw[List.take_of_length_le (by omega)]
    refine Vb @eNm.eq_1 ?_
    simp (disch:=omega) only[Ac,↓Pc,simprocAttr,eNm,retV]
    exact RetOK_pure' rfl rfl
theorem movable_ok (m:Mdl) (x:Mv) (hm:VM m):Holds Tryz.prog 118 [.agg (eMdl m),.agg (eMv x)] [] (.lit (.bool (mvB m x))) []:=by
  have hm2:=hm.prs
  have ho:=refOption_ok m (mvC m x) x.opt
  generalize hres:mvB m x=res
  unfold mvB at hres
  unfold mvC at hres ho
  refine Holds.of_body' (fn:=Tryz.f118) 58 0 [.tmp 4] Tryz.func118 rfl rfl rfl rfl rfl (by simp) ?_
  by_cases hr:0≤x.pair∧x.pair<m.prs.length∧0≤x.side∧x.side≤1∧-268435456≤x.amt∧x.amt≤268435456
  · rw[decide_eq_true hr,Bool.true_and] at hres
    generalize hpp:m.prs.getD x.pair.toNat default=p at *
    by_cases hs:x.side=0
    · rw[if_pos hs] at hres ho
      rw[hres] at ho
      ((repeat' (first|refine Vd (X3 @hpp @eMv.eq_1 @ePr.eq_1) ho ?_|(refine V2 (X3 @hpp @eMv.eq_1 @ePr.eq_1) ?_ ?_<;>try with_reducible intro hb)|(refine Xi ?_ ?_<;>try intro ht)|exact Xx|fail)))
      all_goals exact RetOK_pure' rfl rfl
    · rw[if_neg hs] at hres ho
      rw[hres] at ho
      ((repeat' (first|refine Vd (X3 @hpp @eMv.eq_1 @ePr.eq_1) ho ?_|(refine V2 (X3 @hpp @eMv.eq_1 @ePr.eq_1) ?_ ?_<;>try with_reducible intro hb)|(refine Xi ?_ ?_<;>try intro ht)|exact Xx|fail)))
      all_goals exact RetOK_pure' rfl rfl
  · rw[decide_eq_false hr,Bool.false_and] at hres
    ((repeat' (first|refine Vb (X2 @eMv.eq_1 @ePr.eq_1) ?_|(refine V2 (X2 @eMv.eq_1 @ePr.eq_1) ?_ ?_<;>try with_reducible intro hb)|(refine Xi ?_ ?_<;>try intro ht)|exact Xx|fail)))
    all_goals exact RetOK_pure' rfl (by rw[hres])
end T

