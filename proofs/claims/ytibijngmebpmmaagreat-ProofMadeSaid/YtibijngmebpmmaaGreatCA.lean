import Derived.Test.YtibijngmebpmmaaGreatAmI
import Derived.Test.YtibijngmebpmmaaGreatSA
import Derived.Test.YtibijngmebpmmaaGreatTyB
set_option linter.unusedVariables false
set_option linter.unusedSimpArgs false
set_option linter.unnecessarySimpa false
open Go Go.Am Go.Proofs
open Nat (reduceEqDiff reduceAdd reduceLeDiff reduceMul)
open Int (reduceNeg reduceLE reduceToNat)
set_option maxRecDepth 20000
namespace T
theorem mod_ok (n m:Int) (hm:In64 m):Holds Tryz.prog 14 [.lit (.int .i64 n),.lit (.int .i64 m)] [] (.lit (.int .i64 (modI n m))) []:=by
  unfold In64 at hm
  refine Holds.of_body' (fn:=Tryz.f14) 16 0 [.tmp 4] Tryz.func14 rfl rfl rfl rfl rfl (by simp) ?_
  repeat' (first|(refine Xr X0 ?_;intro K hK)|refine Xo X0 ?_|(refine hK _ ?_;clear hK K)|(refine Xg X0 ?_ ?_<;>try intro hb)|(refine Xi ?_ ?_<;>try intro ht)|refine Xz ?_|refine Xh ?_|(refine Xe ?_;first|refine RetOK_pure' rfl ?_|refine Xl ?_ ?_)|refine Xd ?_ ?_|omega|with_reducible rfl|exact trivial)
  · rw[modI,if_pos ht]
  · have:=tmod_cases n m (by omega);omega
  · rw[modI,if_neg (by omega),(tmod_cases n m (by omega)).1 ht]
  · rw[modI,if_neg (by omega),(tmod_cases n m (by omega)).2.1 ht]
theorem light_ok (xs:List Int):Holds Tryz.prog 5 [.tree 1 (ints xs)] [] (.lit (.bool (decide (xs.length≤400)))) []:=by
  refine Holds.of_body' (fn:=Tryz.f5) 6 0 [.tmp 2] Tryz.func5 rfl rfl rfl rfl rfl (by simp) ?_
  repeat' (first|(refine Xr X0 ?_;intro K hK)|refine Xo X0 ?_|(refine hK _ ?_;clear hK K)|(refine Xg X0 ?_ ?_<;>try intro hb)|(refine Xi ?_ ?_<;>try intro ht)|refine Xz ?_|refine Xh ?_|(refine Xe ?_;first|refine RetOK_pure' rfl ?_|refine Xl ?_ ?_)|refine Xd ?_ ?_|omega|with_reducible rfl|exact trivial)
  · congr 3;simp;omega
theorem next_ok (L:List Int) (k:Nat) (n:Int) (hn:In64 n) (hk:k≤L.length) (hL:L.length<1000000):Holds Tryz.prog 11 [.ptr 0 0 0,.lit (.int .i64 n)] [.var [.tree 1 (ints L),.lit (.int .i64 k)]] (.lit (.int .i64 (nextV L k n)))
    [.var [.tree 1 (ints L),.lit (.int .i64 (nextA L k))]]:=by
  refine Holds.of_body' (fn:=Tryz.f11) 35 1 [.tmp 4] Tryz.func11 rfl rfl rfl rfl rfl (by simp) ?_
  repeat' (first|(refine Xq X0 ?_;intro K hK)|refine Xo X0 ?_|refine Xc (mod_ok _ _ hn) ?_|(refine hK _ ?_;clear hK K)|(refine Xg X0 ?_ ?_<;>try intro hb)|(refine Xi ?_ ?_<;>try intro ht)|refine Xz ?_|refine Xh ?_|(refine Xe ?_;first|refine RetOK_pure' rfl ?_|refine Xl ?_ ?_)|refine Xd ?_ ?_|omega|with_reducible rfl|exact trivial)
  · rw[nextA,if_pos (by omega)]
  · rw[nextV,if_pos (by omega)]
  · rw[nextA,if_neg (by omega),Int.natCast_add];rfl
  · rw[nextV,if_neg (by omega),show ((k:Int)+1 - 1).toNat=k by omega]
theorem one_ok (L:List Int) (k:Nat) (n:Int) (hn:In64 n) (hn0:0<n) (hk:k≤L.length) (hL:L.length<1000000):Holds Tryz.prog 10 [.ptr 0 0 0,.lit (.int .i64 n)] [.var [.tree 1 (ints L),.lit (.int .i64 k)]] (.lit (.bool (oneV L k n)))
    [.var [.tree 1 (ints L),.lit (.int .i64 (nextA L k))]]:=by
  refine Holds.of_body' (fn:=Tryz.f10) 11 1 [.tmp 4] Tryz.func10 rfl rfl rfl rfl rfl (by simp) ?_
  repeat' (first|(refine Xr X0 ?_;intro K hK)|refine Xo X0 ?_|(refine hK _ ?_;clear hK K)|(refine Xg X0 ?_ ?_<;>try intro hb)|(refine Xi ?_ ?_<;>try intro ht)|refine Xz ?_|refine Xh ?_|(refine Xe ?_;first|refine RetOK_pure' rfl ?_|refine Xl ?_ ?_)|refine Xd ?_ ?_|omega|with_reducible rfl|exact trivial)
  refine callK_all (next_ok L k n hn hk hL) (by simp) ?_
  unfold In64 at hn
  repeat' (first|(refine Xr X0 ?_;intro K hK)|refine Xo X0 ?_|(refine hK _ ?_;clear hK K)|(refine Xg X0 ?_ ?_<;>try intro hb)|(refine Xi ?_ ?_<;>try intro ht)|refine Xz ?_|refine Xh ?_|(refine Xe ?_;first|refine RetOK_pure' rfl ?_|refine Xl ?_ ?_)|refine Xd ?_ ?_|omega|with_reducible rfl|exact trivial)
  · rfl
theorem dcost_ok (L:List Int) (k:Nat) (hk:k≤L.length) (hL:L.length<1000000):Holds Tryz.prog 17 [.ptr 0 0 0] [.var [.tree 1 (ints L),.lit (.int .i64 k)]] (.lit (.int .i64 (costV L k)))
    [.var [.tree 1 (ints L),.lit (.int .i64 (costA L k))]]:=by
  have h6:=nextV_range (L:=L) (k:=k) (n:=6) (by omega)
  have h20:=nextV_range (L:=L) (k:=nextA L k) (n:=20) (by omega)
  refine Holds.of_body' (fn:=Tryz.f17) 14 1 [.tmp 2] Tryz.func17 rfl rfl rfl rfl rfl (by simp) ?_
  repeat' (first|(refine Xr X0 ?_;intro K hK)|refine Xo X0 ?_|(refine hK _ ?_;clear hK K)|(refine Xg X0 ?_ ?_<;>try intro hb)|(refine Xi ?_ ?_<;>try intro ht)|refine Xz ?_|refine Xh ?_|(refine Xe ?_;first|refine RetOK_pure' rfl ?_|refine Xl ?_ ?_)|refine Xd ?_ ?_|omega|with_reducible rfl|exact trivial)
  refine callK_all (next_ok L k 6 (by unfold In64;omega) hk hL) (by simp) ?_
  have c1:nextV L k 6≤3→costA L k=nextA L k:=fun h=>by rw[costA,if_pos h]
  have c2:nextV L k 6<3→costV L k=0:=fun h=>by rw[costV,if_pos h]
  have c3:nextV L k 6=3→costV L k=1099511627776:=fun h=>by rw[costV,if_neg (by omega),if_pos h]
  have c4:¬ nextV L k 6≤3→costA L k=nextA L (nextA L k):=fun h=>by rw[costA,if_neg h]
  have c5:¬ nextV L k 6≤3→costV L k=1+nextV L (nextA L k) 20:=fun h=>by rw[costV,if_neg (by omega),if_neg (by omega)]
  repeat' (first|(refine Xr X0 ?_;intro K hK)|refine Xo X0 ?_|(refine hK _ ?_;clear hK K)|(refine Xg X0 ?_ ?_<;>try intro hb)|(refine Xi ?_ ?_<;>try intro ht)|refine Xz ?_|refine Xh ?_|(refine Xe ?_;first|refine RetOK_pure' rfl ?_|refine Xl ?_ ?_)|refine Xd ?_ ?_|omega|with_reducible rfl|exact trivial)
  iterate 3
    · rw[c1 (by omega)]
    · rw[c2 (by omega)]
  · rw[c1 (by omega)]
  · rw[c3 (by omega)]
  · refine callK_all (next_ok L (nextA L k) 20 (by unfold In64;omega) (nextA_le hk) hL) (by simp) ?_
    repeat' (first|(refine Xr X0 ?_;intro K hK)|refine Xo X0 ?_|(refine hK _ ?_;clear hK K)|(refine Xg X0 ?_ ?_<;>try intro hb)|(refine Xi ?_ ?_<;>try intro ht)|refine Xz ?_|refine Xh ?_|(refine Xe ?_;first|refine RetOK_pure' rfl ?_|refine Xl ?_ ?_)|refine Xd ?_ ?_|omega|with_reducible rfl|exact trivial)
    · rw[c4 (by omega)]
    · rw[c5 (by omega)]
theorem roll_ok (L:List Int):Holds Tryz.prog 7 [.tree 1 (ints L)] [] (.ptr 0 0 0) [.var [.tree 1 (ints L),.lit (.int .i64 (0:Nat))]]:=by
  refine Holds.of_body' (fn:=Tryz.f7) 6 0 [.tmp 2] Tryz.func7 rfl rfl rfl rfl rfl (by simp) ?_
  repeat' (first|(refine Xr X0 ?_;intro K hK)|refine Xo X0 ?_|(refine hK _ ?_;clear hK K)|(refine Xg X0 ?_ ?_<;>try intro hb)|(refine Xi ?_ ?_<;>try intro ht)|refine Xz ?_|refine Xh ?_|refine Xe ?_|refine Xd ?_ ?_|omega|with_reducible rfl|exact trivial)
  rw[show (0:Int)=((0:Nat):Int) from rfl]
  exact RetOK_all rfl (by simp) rfl
theorem sum_ok (a b:Int) (ha:In41 a) (hb:In41 b):Holds Tryz.prog 82 [.lit (.int .i64 a),.lit (.int .i64 b)] [] (.lit (.int .i64 (addC a b))) []:=by
  unfold In41 at *
  refine Holds.of_body' (fn:=Tryz.f82) 9 0 [.tmp 4] Tryz.func82 rfl rfl rfl rfl rfl (by simp) ?_
  repeat' (first|(refine Xr X0 ?_;intro K hK)|refine Xo X0 ?_|(refine hK _ ?_;clear hK K)|(refine Xg X0 ?_ ?_<;>try intro hb)|(refine Xi ?_ ?_<;>try intro ht)|refine Xz ?_|refine Xh ?_|(refine Xe ?_;first|refine RetOK_pure' rfl ?_|refine Xl ?_ ?_)|refine Xd ?_ ?_|omega|with_reducible rfl|exact trivial)
  · rfl
theorem add_ok (a b:Int) (ha:In41 a) (hb:In41 b):Holds Tryz.prog 90 [.lit (.int .i64 a),.lit (.int .i64 b)] [] (.lit (.int .i64 (addC a b))) []:=by
  unfold In41 at *
  refine Holds.of_body' (fn:=Tryz.f90) 9 0 [.tmp 4] Tryz.func90 rfl rfl rfl rfl rfl (by simp) ?_
  repeat' (first|(refine Xr X0 ?_;intro K hK)|refine Xo X0 ?_|(refine hK _ ?_;clear hK K)|(refine Xg X0 ?_ ?_<;>try intro hb)|(refine Xi ?_ ?_<;>try intro ht)|refine Xz ?_|refine Xh ?_|(refine Xe ?_;first|refine RetOK_pure' rfl ?_|refine Xl ?_ ?_)|refine Xd ?_ ?_|omega|with_reducible rfl|exact trivial)
  · rfl
theorem mcost_ok (n:Int):Holds Tryz.prog 95 [.lit (.int .i64 n)] [] (.lit (.bool (priceB n))) []:=by
  refine Holds.of_body' (fn:=Tryz.f95) 13 0 [.tmp 2] Tryz.func95 rfl rfl rfl rfl rfl (by simp) ?_
  repeat' (first|(refine Xr X0 ?_;intro K hK)|refine Xo X0 ?_|(refine hK _ ?_;clear hK K)|(refine Xg X0 ?_ ?_<;>try intro hb)|(refine Xi ?_ ?_<;>try intro ht)|refine Xz ?_|refine Xh ?_|(refine Xe ?_;first|refine RetOK_pure' rfl ?_|refine Xl ?_ ?_)|refine Xd ?_ ?_|omega|with_reducible rfl|exact trivial)
  all_goals (refine congrArg (fun b=>AV.lit (Value.bool b)) ?_;rw[Bool.eq_iff_iff];simp only[priceB,decide_eq_true_eq,beq_iff_eq,bne_iff_ne,Bool.and_eq_true,Bool.or_eq_true,Bool.not_eq_true',decide_eq_false_iff_not,Bool.false_eq_true,reduceCtorEq,iff_true,iff_false,true_iff,false_iff,eq_self];omega)
theorem price_ok (n:Int):Holds Tryz.prog 52 [.lit (.int .i64 n)] [] (.lit (.bool (priceB n))) []:=by
  refine Holds.of_body' (fn:=Tryz.f52) 13 0 [.tmp 2] Tryz.func52 rfl rfl rfl rfl rfl (by simp) ?_
  repeat' (first|(refine Xr X0 ?_;intro K hK)|refine Xo X0 ?_|(refine hK _ ?_;clear hK K)|(refine Xg X0 ?_ ?_<;>try intro hb)|(refine Xi ?_ ?_<;>try intro ht)|refine Xz ?_|refine Xh ?_|(refine Xe ?_;first|refine RetOK_pure' rfl ?_|refine Xl ?_ ?_)|refine Xd ?_ ?_|omega|with_reducible rfl|exact trivial)
  all_goals (refine congrArg (fun b=>AV.lit (Value.bool b)) ?_;rw[Bool.eq_iff_iff];simp only[priceB,decide_eq_true_eq,beq_iff_eq,bne_iff_ne,Bool.and_eq_true,Bool.or_eq_true,Bool.not_eq_true',decide_eq_false_iff_not,Bool.false_eq_true,reduceCtorEq,iff_true,iff_false,true_iff,false_iff,eq_self];omega)
theorem named_ok (m:Mdl) (n:Int):Holds Tryz.prog 94 [.agg (eMdl m),.lit (.int .i64 n)] [] (.lit (.bool (ruleB m.rules n))) []:=by
  refine Holds.of_body' (fn:=Tryz.f94) 13 0 [.tmp 4] Tryz.func94 rfl rfl rfl rfl rfl (by simp) ?_
  repeat' (first|(refine Xr @eMdl.eq_1 ?_;intro K hK)|refine Xo @eMdl.eq_1 ?_|(refine hK _ ?_;clear hK K)|(refine Xg @eMdl.eq_1 ?_ ?_<;>try intro hb)|(refine Xi ?_ ?_<;>try intro ht)|refine Xz ?_|refine Xh ?_|(refine Xe ?_;first|refine RetOK_pure' rfl ?_|refine Xl ?_ ?_)|refine Xd ?_ ?_|omega|with_reducible rfl|exact trivial)
  all_goals (refine congrArg (fun b=>AV.lit (Value.bool b)) ?_;rw[Bool.eq_iff_iff];simp only[ruleB,decide_eq_true_eq,beq_iff_eq,bne_iff_ne,Bool.and_eq_true,Bool.or_eq_true,Bool.not_eq_true',decide_eq_false_iff_not,Bool.false_eq_true,reduceCtorEq,iff_true,iff_false,true_iff,false_iff,eq_self];omega)
theorem rule_ok (m:Mdl) (n:Int):Holds Tryz.prog 51 [.agg (eMdl m),.lit (.int .i64 n)] [] (.lit (.bool (ruleB m.rules n))) []:=by
  refine Holds.of_body' (fn:=Tryz.f51) 13 0 [.tmp 4] Tryz.func51 rfl rfl rfl rfl rfl (by simp) ?_
  repeat' (first|(refine Xr @eMdl.eq_1 ?_;intro K hK)|refine Xo @eMdl.eq_1 ?_|(refine hK _ ?_;clear hK K)|(refine Xg @eMdl.eq_1 ?_ ?_<;>try intro hb)|(refine Xi ?_ ?_<;>try intro ht)|refine Xz ?_|refine Xh ?_|(refine Xe ?_;first|refine RetOK_pure' rfl ?_|refine Xl ?_ ?_)|refine Xd ?_ ?_|omega|with_reducible rfl|exact trivial)
  all_goals (refine congrArg (fun b=>AV.lit (Value.bool b)) ?_;rw[Bool.eq_iff_iff];simp only[ruleB,decide_eq_true_eq,beq_iff_eq,bne_iff_ne,Bool.and_eq_true,Bool.or_eq_true,Bool.not_eq_true',decide_eq_false_iff_not,Bool.false_eq_true,reduceCtorEq,iff_true,iff_false,true_iff,false_iff,eq_self];omega)
theorem isNaN_ok (n:Int):Holds Tryz.prog 107 [.lit (.int .i64 n)] [] (.lit (.bool false)) []:=by
  refine Holds.of_body' (fn:=Tryz.f107) 6 0 [.tmp 2] Tryz.func107 rfl rfl rfl rfl rfl (by simp) ?_
  repeat' (first|(refine Xr @bne_self_eq_false.{0} ?_;intro K hK)|refine Xo @bne_self_eq_false.{0} ?_|(refine hK _ ?_;clear hK K)|(refine Xg @bne_self_eq_false.{0} ?_ ?_<;>try intro hb)|(refine Xi ?_ ?_<;>try intro ht)|refine Xz ?_|refine Xh ?_|(refine Xe ?_;first|refine RetOK_pure' rfl ?_|refine Xl ?_ ?_)|refine Xd ?_ ?_|omega|with_reducible rfl|exact trivial)
theorem compare_ok (a b:Int):Holds Tryz.prog 98 [.lit (.int .i64 a),.lit (.int .i64 b)] [] (.lit (.int .i64 (cmp3 a b))) []:=by
  refine Holds.of_body' (fn:=Tryz.f98) 20 0 [.tmp 4] Tryz.func98 rfl rfl rfl rfl rfl (by simp) ?_
  repeat' (first|(refine Xq X0 ?_;intro K hK)|refine Xo X0 ?_|refine Xc (isNaN_ok _) ?_|(refine hK _ ?_;clear hK K)|(refine Xg X0 ?_ ?_<;>try intro hb)|(refine Xi ?_ ?_<;>try intro ht)|refine Xz ?_|refine Xh ?_|(refine Xe ?_;first|refine RetOK_pure' rfl ?_|refine Xl ?_ ?_)|refine Xd ?_ ?_|omega|with_reducible rfl|exact trivial)
  all_goals (unfold cmp3;congr 2;(repeat' split)<;>omega)
theorem or_ok (l:List Int) (hl:l.length<1000000):Holds Tryz.prog 97 [.tree 1 (ints l)] [] (.lit (.int .i64 (orL l))) []:=by
  generalize hres:orL l=res
  refine Holds.of_body' (fn:=Tryz.f97) 18 0 [.tmp 2] Tryz.func97 rfl rfl rfl rfl rfl (by simp) ?_
  repeat' (first|(refine Xr X0 ?_;intro K hK)|refine Xo X0 ?_|(refine hK _ ?_;clear hK K)|(refine Xg X0 ?_ ?_<;>try intro hb)|(refine Xi ?_ ?_<;>try intro ht)|refine Xz ?_|refine Xh ?_|(refine Xe ?_;first|refine RetOK_pure' rfl ?_|refine Xl ?_ ?_)|refine Xd ?_ ?_|omega|with_reducible rfl|exact trivial)
  refine W_loopS (fun k:Nat=>(⟨slots [(3,.lit (.int .i64 0)),(6,.tree 1 (ints l)),(7,.lit (.int .i64 l.length)),(8,.lit (.int .i64 k))],[]⟩:St)) (fun k=>k≤l.length∧orL (l.drop k)=res) (fun k=>l.length - k) 0 ⟨Nat.zero_le _,hres⟩ (Xv X0) ?_
  rintro k ⟨hk,hr⟩ Ql hnl hel
  repeat' (first|(refine Xr X0 ?_;intro K hK)|refine Xo X0 ?_|(refine hK _ ?_;clear hK K)|(refine Xg X0 ?_ ?_<;>try intro hb)|(refine Xi ?_ ?_<;>try intro ht)|refine Xz ?_|refine Xh ?_|(refine Xe ?_;first|refine RetOK_pure' rfl ?_|refine Xl ?_ ?_)|refine Xd ?_ ?_|omega|with_reducible rfl|exact trivial)
  · rw[getD_drop0 _ _ 0 (by omega),orL,if_pos (by assumption)] at hr
    rw[hr]
  · rw[getD_drop0 _ _ 0 (by omega),orL,if_neg (by omega)] at hr
    exact hnl _ (k+1) ⟨by omega,hr⟩ (by omega) (Xv X0)
  · rw[List.drop_eq_nil_of_le (by omega),orL] at hr
    rw[hr]
theorem option_ok (m:Mdl) (c o:Int):Holds Tryz.prog 100 [.agg (eMdl m),.lit (.int .i64 c),.lit (.int .i64 o)] [] (.lit (.bool (optB m c o))) []:=by
  refine Holds.of_body' (fn:=Tryz.f100) 30 0 [.tmp 6] Tryz.func100 rfl rfl rfl rfl rfl (by simp) ?_
  repeat' (first|(refine Xr (X4 @eMdl.eq_1 @rows_length @rows_getD @eCls.eq_1) ?_;intro K hK)|refine Xo (X4 @eMdl.eq_1 @rows_length @rows_getD @eCls.eq_1) ?_|(refine hK _ ?_;clear hK K)|(refine Xg (X4 @eMdl.eq_1 @rows_length @rows_getD @eCls.eq_1) ?_ ?_<;>try intro hb)|(refine Xi ?_ ?_<;>try intro ht)|refine Xz ?_|refine Xh ?_|(refine Xe ?_;first|refine RetOK_pure' rfl ?_|refine Xl ?_ ?_)|refine Xd ?_ ?_|omega|with_reducible rfl|exact trivial)
  all_goals (refine congrArg (fun b=>AV.lit (Value.bool b)) ?_;rw[Bool.eq_iff_iff];simp only[optB,decide_eq_true_eq,beq_iff_eq,bne_iff_ne,Bool.and_eq_true,Bool.or_eq_true,Bool.not_eq_true',decide_eq_false_iff_not,Bool.false_eq_true,reduceCtorEq,iff_true,iff_false,true_iff,false_iff,eq_self];omega)
theorem refOption_ok (m:Mdl) (c o:Int):Holds Tryz.prog 56 [.agg (eMdl m),.lit (.int .i64 c),.lit (.int .i64 o)] [] (.lit (.bool (optB m c o))) []:=by
  refine Holds.of_body' (fn:=Tryz.f56) 30 0 [.tmp 6] Tryz.func56 rfl rfl rfl rfl rfl (by simp) ?_
  repeat' (first|(refine Xr (X4 @eMdl.eq_1 @rows_length @rows_getD @eCls.eq_1) ?_;intro K hK)|refine Xo (X4 @eMdl.eq_1 @rows_length @rows_getD @eCls.eq_1) ?_|(refine hK _ ?_;clear hK K)|(refine Xg (X4 @eMdl.eq_1 @rows_length @rows_getD @eCls.eq_1) ?_ ?_<;>try intro hb)|(refine Xi ?_ ?_<;>try intro ht)|refine Xz ?_|refine Xh ?_|(refine Xe ?_;first|refine RetOK_pure' rfl ?_|refine Xl ?_ ?_)|refine Xd ?_ ?_|omega|with_reducible rfl|exact trivial)
  all_goals (refine congrArg (fun b=>AV.lit (Value.bool b)) ?_;rw[Bool.eq_iff_iff];simp only[optB,decide_eq_true_eq,beq_iff_eq,bne_iff_ne,Bool.and_eq_true,Bool.or_eq_true,Bool.not_eq_true',decide_eq_false_iff_not,Bool.false_eq_true,reduceCtorEq,iff_true,iff_false,true_iff,false_iff,eq_self];omega)
theorem excess_ok (c:Ct) (n:Int) (h1:0≤c.most) (h2:n≤1048576) (h3:0≤n) (h4:In41 c.pen):Holds Tryz.prog 105 [.agg (eCt c),.lit (.int .i64 n)] [] (.lit (.int .i64 (excV c.most c.pen n))) []:=by
  unfold In41 at h4
  have hm:c.most<n→0≤(n - c.most) * c.pen∧(n - c.most) * c.pen≤1048576 * 1099511627776:=fun h=>⟨Int.mul_nonneg (by omega) h4.1,Int.mul_le_mul (by omega) h4.2 h4.1 (by omega)⟩
  refine Holds.of_body' (fn:=Tryz.f105) 17 0 [.tmp 4] Tryz.func105 rfl rfl rfl rfl rfl (by simp) ?_
  repeat' (first|(refine Xr @eCt.eq_1 ?_;intro K hK)|refine Xo @eCt.eq_1 ?_|(refine hK _ ?_;clear hK K)|(refine Xg @eCt.eq_1 ?_ ?_<;>try intro hb)|(refine Xi ?_ ?_<;>try intro ht)|refine Xz ?_|refine Xh ?_|(refine Xe ?_;first|refine RetOK_pure' rfl ?_|refine Xl ?_ ?_)|refine Xd ?_ ?_|omega|with_reducible rfl|exact trivial)
  · rw[excV,if_pos ht]
  · rw[excV,if_neg (by omega)]
theorem times_ok (n c:Int) (h2:n≤1048576) (h4:In41 c):Holds Tryz.prog 63 [.lit (.int .i64 n),.lit (.int .i64 c)] [] (.lit (.int .i64 (timesV n c))) []:=by
  unfold In41 at h4
  have hm:0<n→0≤n * c∧n * c≤1048576 * 1099511627776:=fun h=>⟨Int.mul_nonneg (by omega) h4.1,Int.mul_le_mul (by omega) h4.2 h4.1 (by omega)⟩
  refine Holds.of_body' (fn:=Tryz.f63) 13 0 [.tmp 4] Tryz.func63 rfl rfl rfl rfl rfl (by simp) ?_
  repeat' (first|(refine Xr X0 ?_;intro K hK)|refine Xo X0 ?_|(refine hK _ ?_;clear hK K)|(refine Xg X0 ?_ ?_<;>try intro hb)|(refine Xi ?_ ?_<;>try intro ht)|refine Xz ?_|refine Xh ?_|(refine Xe ?_;first|refine RetOK_pure' rfl ?_|refine Xl ?_ ?_)|refine Xd ?_ ?_|omega|with_reducible rfl|exact trivial)
  · rw[timesV,if_pos ht]
  · rw[timesV,if_neg (by omega),if_pos (by omega)]
  · rw[timesV,if_neg (by omega),if_neg (by omega)]
end T
open Go Go.Am Go.Proofs
open Nat (reduceEqDiff reduceAdd reduceLeDiff reduceMul)
open Int (reduceNeg reduceLE reduceToNat)
set_option maxRecDepth 20000
namespace T
def idxL {α:Type} (p:α→Bool):Nat→List α→Int
  | _,[]=>-1
  | k,x::r=>if p x=true then (k:Int) else idxL p (k+1) r
theorem idxL_any {α:Type} (p:α→Bool):∀ (l:List α) (k:Nat),decide (0≤idxL p k l)=l.any p
  | [],k=>rfl
  | x::r,k=>by
    rw[idxL,List.any_cons]
    split
    · rename_i h;rw[h];simp
    · rename_i h;rw[idxL_any p r (k+1)];simp_all
theorem indexCls_ok (l:List (List Opt)) (g:FuncId) (caps:List AV) (objs:List Ob) (p:(List Opt)→Bool) (hl:l.length<9223372036854775808) (hg:∀ x∈l,Holds Tryz.prog g ([.tree 6 (rowsOf eOpt x)]++caps) objs (.lit (.bool (p x))) objs) :
    Holds Tryz.prog 106 [.tree 1 (rowsOf eCls l),.fn g caps] objs (.lit (.int .i64 (idxL p 0 l))) objs:=by
  generalize hres:idxL p 0 l=res
  refine Holds.of_body' (fn:=Tryz.f106) 19 objs.length [.tmp 4] Tryz.func106 rfl rfl rfl rfl rfl (by simp) ?_
  repeat' (first|(refine Xr (X3 @rows_length @rows_getD @eCls.eq_1) ?_;intro K hK)|refine Xo (X3 @rows_length @rows_getD @eCls.eq_1) ?_|(refine hK _ ?_;clear hK K)|(refine Xg (X3 @rows_length @rows_getD @eCls.eq_1) ?_ ?_<;>try intro hb)|(refine Xi ?_ ?_<;>try intro ht)|refine Xz ?_|refine Xh ?_|refine Xe ?_|refine Xd ?_ ?_|omega|with_reducible rfl|exact trivial)
  refine W_loopS (fun k:Nat=>(⟨slots [(0,.tree 1 (rowsOf eCls l)),(1,.fn g caps),(7,.lit (.int .i64 l.length)),(8,.lit (.int .i64 k))],objs⟩:St)) (fun k=>k≤l.length∧idxL p k (l.drop k)=res) (fun k=>l.length - k) 0 ⟨Nat.zero_le _,hres⟩ (Xv X0) ?_
  rintro k ⟨hk,hr⟩ Ql hnl hel
  by_cases hk':k<l.length
  · have hx:=hg _ (getD_mem (d:=default) hk')
    have hd:=getD_drop0 l k default hk'
    generalize hxx:l.getD k default=x at *
    rw[hd,idxL] at hr
    simp only[List.cons_append,List.nil_append,eCls] at hx
    repeat' (first|(refine Xr (X4 @rows_length @rows_getD @eCls.eq_1 @hxx) ?_;intro K hK)|refine Xo (X4 @rows_length @rows_getD @eCls.eq_1 @hxx) ?_|(refine hK _ ?_;clear hK K)|(refine Xg (X4 @rows_length @rows_getD @eCls.eq_1 @hxx) ?_ ?_<;>try intro hb)|(refine Xi ?_ ?_<;>try intro ht)|refine Xz ?_|refine Xh ?_|refine Xe ?_|refine Xd ?_ ?_|omega|with_reducible rfl|exact trivial)
    refine callK_all hx (Nat.le_refl _) ?_
    repeat' (first|(refine Xr (X3 @rows_length @rows_getD @eCls.eq_1) ?_;intro K hK)|refine Xo (X3 @rows_length @rows_getD @eCls.eq_1) ?_|(refine hK _ ?_;clear hK K)|(refine Xg (X3 @rows_length @rows_getD @eCls.eq_1) ?_ ?_<;>try intro hb)|(refine Xi ?_ ?_<;>try intro ht)|refine Xz ?_|refine Xh ?_|refine Xe ?_|refine Xd ?_ ?_|omega|with_reducible rfl|exact trivial)
    · rw[if_pos (by assumption)] at hr
      rw[← hr]
      exact RetOK_all rfl (Nat.le_refl _) rfl
    · rw[if_neg (by simp_all)] at hr
      exact hnl _ (k+1) ⟨by omega,hr⟩ (by omega) (Xv X0)
  · repeat' (first|(refine Xr (X3 @rows_length @rows_getD @eCls.eq_1) ?_;intro K hK)|refine Xo (X3 @rows_length @rows_getD @eCls.eq_1) ?_|(refine hK _ ?_;clear hK K)|(refine Xg (X3 @rows_length @rows_getD @eCls.eq_1) ?_ ?_<;>try intro hb)|(refine Xi ?_ ?_<;>try intro ht)|refine Xz ?_|refine Xh ?_|refine Xe ?_|refine Xd ?_ ?_|omega|with_reducible rfl|exact trivial)
    rw[List.drop_eq_nil_of_le (by omega),idxL] at hr
    rw[← hr]
    exact RetOK_all rfl (Nat.le_refl _) rfl
theorem containsCls_ok (l:List (List Opt)) (g:FuncId) (caps:List AV) (objs:List Ob) (p:(List Opt)→Bool) (hl:l.length<9223372036854775808) (hg:∀ x∈l,Holds Tryz.prog g ([.tree 6 (rowsOf eOpt x)]++caps) objs (.lit (.bool (p x))) objs) :
    Holds Tryz.prog 92 [.tree 1 (rowsOf eCls l),.fn g caps] objs (.lit (.bool (l.any p))) objs:=by
  rw[← idxL_any p l 0]
  refine Holds.of_body' (fn:=Tryz.f92) 9 objs.length [.tmp 4] Tryz.func92 rfl rfl rfl rfl rfl (by simp) ?_
  repeat' (first|(refine Xr (X3 @rows_length @rows_getD @eCls.eq_1) ?_;intro K hK)|refine Xo (X3 @rows_length @rows_getD @eCls.eq_1) ?_|(refine hK _ ?_;clear hK K)|(refine Xg (X3 @rows_length @rows_getD @eCls.eq_1) ?_ ?_<;>try intro hb)|(refine Xi ?_ ?_<;>try intro ht)|refine Xz ?_|refine Xh ?_|refine Xe ?_|refine Xd ?_ ?_|omega|with_reducible rfl|exact trivial)
  refine callK_all (indexCls_ok l g caps objs p hl hg) (Nat.le_refl _) ?_
  repeat' (first|(refine Xr (X3 @rows_length @rows_getD @eCls.eq_1) ?_;intro K hK)|refine Xo (X3 @rows_length @rows_getD @eCls.eq_1) ?_|(refine hK _ ?_;clear hK K)|(refine Xg (X3 @rows_length @rows_getD @eCls.eq_1) ?_ ?_<;>try intro hb)|(refine Xi ?_ ?_<;>try intro ht)|refine Xz ?_|refine Xh ?_|refine Xe ?_|refine Xd ?_ ?_|omega|with_reducible rfl|exact trivial)
  exact RetOK_all rfl (Nat.le_refl _) rfl
theorem indexOpt_ok (l:List Opt) (g:FuncId) (caps:List AV) (objs:List Ob) (p:Opt→Bool) (hl:l.length<9223372036854775808) (hg:∀ x∈l,Holds Tryz.prog g ([.agg (eOpt x)]++caps) objs (.lit (.bool (p x))) objs) :
    Holds Tryz.prog 93 [.tree 6 (rowsOf eOpt l),.fn g caps] objs (.lit (.int .i64 (idxL p 0 l))) objs:=by
  generalize hres:idxL p 0 l=res
  refine Holds.of_body' (fn:=Tryz.f93) 19 objs.length [.tmp 4] Tryz.func93 rfl rfl rfl rfl rfl (by simp) ?_
  repeat' (first|(refine Xr (X3 @rows_length @rows_getD @eOpt.eq_1) ?_;intro K hK)|refine Xo (X3 @rows_length @rows_getD @eOpt.eq_1) ?_|(refine hK _ ?_;clear hK K)|(refine Xg (X3 @rows_length @rows_getD @eOpt.eq_1) ?_ ?_<;>try intro hb)|(refine Xi ?_ ?_<;>try intro ht)|refine Xz ?_|refine Xh ?_|refine Xe ?_|refine Xd ?_ ?_|omega|with_reducible rfl|exact trivial)
  refine W_loopS (fun k:Nat=>(⟨slots [(0,.tree 6 (rowsOf eOpt l)),(1,.fn g caps),(7,.lit (.int .i64 l.length)),(8,.lit (.int .i64 k))],objs⟩:St)) (fun k=>k≤l.length∧idxL p k (l.drop k)=res) (fun k=>l.length - k) 0 ⟨Nat.zero_le _,hres⟩ (Xv X0) ?_
  rintro k ⟨hk,hr⟩ Ql hnl hel
  by_cases hk':k<l.length
  · have hx:=hg _ (getD_mem (d:=default) hk')
    have hd:=getD_drop0 l k default hk'
    generalize hxx:l.getD k default=x at *
    rw[hd,idxL] at hr
    simp only[List.cons_append,List.nil_append,eOpt] at hx
    repeat' (first|(refine Xr (X4 @rows_length @rows_getD @eOpt.eq_1 @hxx) ?_;intro K hK)|refine Xo (X4 @rows_length @rows_getD @eOpt.eq_1 @hxx) ?_|(refine hK _ ?_;clear hK K)|(refine Xg (X4 @rows_length @rows_getD @eOpt.eq_1 @hxx) ?_ ?_<;>try intro hb)|(refine Xi ?_ ?_<;>try intro ht)|refine Xz ?_|refine Xh ?_|refine Xe ?_|refine Xd ?_ ?_|omega|with_reducible rfl|exact trivial)
    refine callK_all hx (Nat.le_refl _) ?_
    repeat' (first|(refine Xr (X3 @rows_length @rows_getD @eOpt.eq_1) ?_;intro K hK)|refine Xo (X3 @rows_length @rows_getD @eOpt.eq_1) ?_|(refine hK _ ?_;clear hK K)|(refine Xg (X3 @rows_length @rows_getD @eOpt.eq_1) ?_ ?_<;>try intro hb)|(refine Xi ?_ ?_<;>try intro ht)|refine Xz ?_|refine Xh ?_|refine Xe ?_|refine Xd ?_ ?_|omega|with_reducible rfl|exact trivial)
    · rw[if_pos (by assumption)] at hr
      rw[← hr]
      exact RetOK_all rfl (Nat.le_refl _) rfl
    · rw[if_neg (by simp_all)] at hr
      exact hnl _ (k+1) ⟨by omega,hr⟩ (by omega) (Xv X0)
  · repeat' (first|(refine Xr (X3 @rows_length @rows_getD @eOpt.eq_1) ?_;intro K hK)|refine Xo (X3 @rows_length @rows_getD @eOpt.eq_1) ?_|(refine hK _ ?_;clear hK K)|(refine Xg (X3 @rows_length @rows_getD @eOpt.eq_1) ?_ ?_<;>try intro hb)|(refine Xi ?_ ?_<;>try intro ht)|refine Xz ?_|refine Xh ?_|refine Xe ?_|refine Xd ?_ ?_|omega|with_reducible rfl|exact trivial)
    rw[List.drop_eq_nil_of_le (by omega),idxL] at hr
    rw[← hr]
    exact RetOK_all rfl (Nat.le_refl _) rfl
theorem containsOpt_ok (l:List Opt) (g:FuncId) (caps:List AV) (objs:List Ob) (p:Opt→Bool) (hl:l.length<9223372036854775808) (hg:∀ x∈l,Holds Tryz.prog g ([.agg (eOpt x)]++caps) objs (.lit (.bool (p x))) objs) :
    Holds Tryz.prog 66 [.tree 6 (rowsOf eOpt l),.fn g caps] objs (.lit (.bool (l.any p))) objs:=by
  rw[← idxL_any p l 0]
  refine Holds.of_body' (fn:=Tryz.f66) 9 objs.length [.tmp 4] Tryz.func66 rfl rfl rfl rfl rfl (by simp) ?_
  repeat' (first|(refine Xr (X3 @rows_length @rows_getD @eOpt.eq_1) ?_;intro K hK)|refine Xo (X3 @rows_length @rows_getD @eOpt.eq_1) ?_|(refine hK _ ?_;clear hK K)|(refine Xg (X3 @rows_length @rows_getD @eOpt.eq_1) ?_ ?_<;>try intro hb)|(refine Xi ?_ ?_<;>try intro ht)|refine Xz ?_|refine Xh ?_|refine Xe ?_|refine Xd ?_ ?_|omega|with_reducible rfl|exact trivial)
  refine callK_all (indexOpt_ok l g caps objs p hl hg) (Nat.le_refl _) ?_
  repeat' (first|(refine Xr (X3 @rows_length @rows_getD @eOpt.eq_1) ?_;intro K hK)|refine Xo (X3 @rows_length @rows_getD @eOpt.eq_1) ?_|(refine hK _ ?_;clear hK K)|(refine Xg (X3 @rows_length @rows_getD @eOpt.eq_1) ?_ ?_<;>try intro hb)|(refine Xi ?_ ?_<;>try intro ht)|refine Xz ?_|refine Xh ?_|refine Xe ?_|refine Xd ?_ ?_|omega|with_reducible rfl|exact trivial)
  exact RetOK_all rfl (Nat.le_refl _) rfl
theorem indexCt_ok (l:List Ct) (g:FuncId) (caps:List AV) (objs:List Ob) (p:Ct→Bool) (hl:l.length<9223372036854775808) (hg:∀ x∈l,Holds Tryz.prog g ([.agg (eCt x)]++caps) objs (.lit (.bool (p x))) objs) :
    Holds Tryz.prog 99 [.tree 4 (rowsOf eCt l),.fn g caps] objs (.lit (.int .i64 (idxL p 0 l))) objs:=by
  generalize hres:idxL p 0 l=res
  refine Holds.of_body' (fn:=Tryz.f99) 19 objs.length [.tmp 4] Tryz.func99 rfl rfl rfl rfl rfl (by simp) ?_
  repeat' (first|(refine Xr (X3 @rows_length @rows_getD @eCt.eq_1) ?_;intro K hK)|refine Xo (X3 @rows_length @rows_getD @eCt.eq_1) ?_|(refine hK _ ?_;clear hK K)|(refine Xg (X3 @rows_length @rows_getD @eCt.eq_1) ?_ ?_<;>try intro hb)|(refine Xi ?_ ?_<;>try intro ht)|refine Xz ?_|refine Xh ?_|refine Xe ?_|refine Xd ?_ ?_|omega|with_reducible rfl|exact trivial)
  refine W_loopS (fun k:Nat=>(⟨slots [(0,.tree 4 (rowsOf eCt l)),(1,.fn g caps),(7,.lit (.int .i64 l.length)),(8,.lit (.int .i64 k))],objs⟩:St)) (fun k=>k≤l.length∧idxL p k (l.drop k)=res) (fun k=>l.length - k) 0 ⟨Nat.zero_le _,hres⟩ (Xv X0) ?_
  rintro k ⟨hk,hr⟩ Ql hnl hel
  by_cases hk':k<l.length
  · have hx:=hg _ (getD_mem (d:=default) hk')
    have hd:=getD_drop0 l k default hk'
    generalize hxx:l.getD k default=x at *
    rw[hd,idxL] at hr
    simp only[List.cons_append,List.nil_append,eCt] at hx
    repeat' (first|(refine Xr (X4 @rows_length @rows_getD @eCt.eq_1 @hxx) ?_;intro K hK)|refine Xo (X4 @rows_length @rows_getD @eCt.eq_1 @hxx) ?_|(refine hK _ ?_;clear hK K)|(refine Xg (X4 @rows_length @rows_getD @eCt.eq_1 @hxx) ?_ ?_<;>try intro hb)|(refine Xi ?_ ?_<;>try intro ht)|refine Xz ?_|refine Xh ?_|refine Xe ?_|refine Xd ?_ ?_|omega|with_reducible rfl|exact trivial)
    refine callK_all hx (Nat.le_refl _) ?_
    repeat' (first|(refine Xr (X3 @rows_length @rows_getD @eCt.eq_1) ?_;intro K hK)|refine Xo (X3 @rows_length @rows_getD @eCt.eq_1) ?_|(refine hK _ ?_;clear hK K)|(refine Xg (X3 @rows_length @rows_getD @eCt.eq_1) ?_ ?_<;>try intro hb)|(refine Xi ?_ ?_<;>try intro ht)|refine Xz ?_|refine Xh ?_|refine Xe ?_|refine Xd ?_ ?_|omega|with_reducible rfl|exact trivial)
    · rw[if_pos (by assumption)] at hr
      rw[← hr]
      exact RetOK_all rfl (Nat.le_refl _) rfl
    · rw[if_neg (by simp_all)] at hr
      exact hnl _ (k+1) ⟨by omega,hr⟩ (by omega) (Xv X0)
  · repeat' (first|(refine Xr (X3 @rows_length @rows_getD @eCt.eq_1) ?_;intro K hK)|refine Xo (X3 @rows_length @rows_getD @eCt.eq_1) ?_|(refine hK _ ?_;clear hK K)|(refine Xg (X3 @rows_length @rows_getD @eCt.eq_1) ?_ ?_<;>try intro hb)|(refine Xi ?_ ?_<;>try intro ht)|refine Xz ?_|refine Xh ?_|refine Xe ?_|refine Xd ?_ ?_|omega|with_reducible rfl|exact trivial)
    rw[List.drop_eq_nil_of_le (by omega),idxL] at hr
    rw[← hr]
    exact RetOK_all rfl (Nat.le_refl _) rfl
theorem containsCt_ok (l:List Ct) (g:FuncId) (caps:List AV) (objs:List Ob) (p:Ct→Bool) (hl:l.length<9223372036854775808) (hg:∀ x∈l,Holds Tryz.prog g ([.agg (eCt x)]++caps) objs (.lit (.bool (p x))) objs) :
    Holds Tryz.prog 71 [.tree 4 (rowsOf eCt l),.fn g caps] objs (.lit (.bool (l.any p))) objs:=by
  rw[← idxL_any p l 0]
  refine Holds.of_body' (fn:=Tryz.f71) 9 objs.length [.tmp 4] Tryz.func71 rfl rfl rfl rfl rfl (by simp) ?_
  repeat' (first|(refine Xr (X3 @rows_length @rows_getD @eCt.eq_1) ?_;intro K hK)|refine Xo (X3 @rows_length @rows_getD @eCt.eq_1) ?_|(refine hK _ ?_;clear hK K)|(refine Xg (X3 @rows_length @rows_getD @eCt.eq_1) ?_ ?_<;>try intro hb)|(refine Xi ?_ ?_<;>try intro ht)|refine Xz ?_|refine Xh ?_|refine Xe ?_|refine Xd ?_ ?_|omega|with_reducible rfl|exact trivial)
  refine callK_all (indexCt_ok l g caps objs p hl hg) (Nat.le_refl _) ?_
  repeat' (first|(refine Xr (X3 @rows_length @rows_getD @eCt.eq_1) ?_;intro K hK)|refine Xo (X3 @rows_length @rows_getD @eCt.eq_1) ?_|(refine hK _ ?_;clear hK K)|(refine Xg (X3 @rows_length @rows_getD @eCt.eq_1) ?_ ?_<;>try intro hb)|(refine Xi ?_ ?_<;>try intro ht)|refine Xz ?_|refine Xh ?_|refine Xe ?_|refine Xd ?_ ?_|omega|with_reducible rfl|exact trivial)
  exact RetOK_all rfl (Nat.le_refl _) rfl
theorem indexInt_ok (l:List Int) (g:FuncId) (caps:List AV) (objs:List Ob) (p:Int→Bool) (hl:l.length<9223372036854775808) (hg:∀ x∈l,Holds Tryz.prog g ([.lit (.int .i64 x)]++caps) objs (.lit (.bool (p x))) objs) :
    Holds Tryz.prog 101 [.tree 1 (ints l),.fn g caps] objs (.lit (.int .i64 (idxL p 0 l))) objs:=by
  generalize hres:idxL p 0 l=res
  refine Holds.of_body' (fn:=Tryz.f101) 19 objs.length [.tmp 4] Tryz.func101 rfl rfl rfl rfl rfl (by simp) ?_
  repeat' (first|(refine Xr @Nat.add_zero ?_;intro K hK)|refine Xo @Nat.add_zero ?_|(refine hK _ ?_;clear hK K)|(refine Xg @Nat.add_zero ?_ ?_<;>try intro hb)|(refine Xi ?_ ?_<;>try intro ht)|refine Xz ?_|refine Xh ?_|refine Xe ?_|refine Xd ?_ ?_|omega|with_reducible rfl|exact trivial)
  refine W_loopS (fun k:Nat=>(⟨slots [(0,.tree 1 (ints l)),(1,.fn g caps),(7,.lit (.int .i64 l.length)),(8,.lit (.int .i64 k))],objs⟩:St)) (fun k=>k≤l.length∧idxL p k (l.drop k)=res) (fun k=>l.length - k) 0 ⟨Nat.zero_le _,hres⟩ (Xv X0) ?_
  rintro k ⟨hk,hr⟩ Ql hnl hel
  by_cases hk':k<l.length
  · have hx:=hg _ (getD_mem (d:=0) hk')
    have hd:=getD_drop0 l k 0 hk'
    generalize hxx:l.getD k 0=x at *
    rw[hd,idxL] at hr
    simp only[List.cons_append,List.nil_append] at hx
    repeat' (first|(refine Xr (X2 @Nat.add_zero @hxx) ?_;intro K hK)|refine Xo (X2 @Nat.add_zero @hxx) ?_|(refine hK _ ?_;clear hK K)|(refine Xg (X2 @Nat.add_zero @hxx) ?_ ?_<;>try intro hb)|(refine Xi ?_ ?_<;>try intro ht)|refine Xz ?_|refine Xh ?_|refine Xe ?_|refine Xd ?_ ?_|omega|with_reducible rfl|exact trivial)
    refine callK_all hx (Nat.le_refl _) ?_
    repeat' (first|(refine Xr @Nat.add_zero ?_;intro K hK)|refine Xo @Nat.add_zero ?_|(refine hK _ ?_;clear hK K)|(refine Xg @Nat.add_zero ?_ ?_<;>try intro hb)|(refine Xi ?_ ?_<;>try intro ht)|refine Xz ?_|refine Xh ?_|refine Xe ?_|refine Xd ?_ ?_|omega|with_reducible rfl|exact trivial)
    · rw[if_pos (by assumption)] at hr
      rw[← hr]
      exact RetOK_all rfl (Nat.le_refl _) rfl
    · rw[if_neg (by simp_all)] at hr
      exact hnl _ (k+1) ⟨by omega,hr⟩ (by omega) (Xv X0)
  · repeat' (first|(refine Xr @Nat.add_zero ?_;intro K hK)|refine Xo @Nat.add_zero ?_|(refine hK _ ?_;clear hK K)|(refine Xg @Nat.add_zero ?_ ?_<;>try intro hb)|(refine Xi ?_ ?_<;>try intro ht)|refine Xz ?_|refine Xh ?_|refine Xe ?_|refine Xd ?_ ?_|omega|with_reducible rfl|exact trivial)
    rw[List.drop_eq_nil_of_le (by omega),idxL] at hr
    rw[← hr]
    exact RetOK_all rfl (Nat.le_refl _) rfl
theorem containsInt_ok (l:List Int) (g:FuncId) (caps:List AV) (objs:List Ob) (p:Int→Bool) (hl:l.length<9223372036854775808) (hg:∀ x∈l,Holds Tryz.prog g ([.lit (.int .i64 x)]++caps) objs (.lit (.bool (p x))) objs) :
    Holds Tryz.prog 74 [.tree 1 (ints l),.fn g caps] objs (.lit (.bool (l.any p))) objs:=by
  rw[← idxL_any p l 0]
  refine Holds.of_body' (fn:=Tryz.f74) 9 objs.length [.tmp 4] Tryz.func74 rfl rfl rfl rfl rfl (by simp) ?_
  repeat' (first|(refine Xr @Nat.add_zero ?_;intro K hK)|refine Xo @Nat.add_zero ?_|(refine hK _ ?_;clear hK K)|(refine Xg @Nat.add_zero ?_ ?_<;>try intro hb)|(refine Xi ?_ ?_<;>try intro ht)|refine Xz ?_|refine Xh ?_|refine Xe ?_|refine Xd ?_ ?_|omega|with_reducible rfl|exact trivial)
  refine callK_all (indexInt_ok l g caps objs p hl hg) (Nat.le_refl _) ?_
  repeat' (first|(refine Xr @Nat.add_zero ?_;intro K hK)|refine Xo @Nat.add_zero ?_|(refine hK _ ?_;clear hK K)|(refine Xg @Nat.add_zero ?_ ?_<;>try intro hb)|(refine Xi ?_ ?_<;>try intro ht)|refine Xz ?_|refine Xh ?_|refine Xe ?_|refine Xd ?_ ?_|omega|with_reducible rfl|exact trivial)
  exact RetOK_all rfl (Nat.le_refl _) rfl
end T
open Go Go.Am Go.Proofs
open Nat (reduceEqDiff reduceAdd reduceLeDiff reduceMul)
open Int (reduceNeg reduceLE reduceToNat)
set_option maxRecDepth 20000
namespace T
theorem large1_ok (l:List Opt):Holds Tryz.prog 91 [.tree 6 (rowsOf eOpt l)] [] (.lit (.bool (decide (24<l.length)))) []:=by
  refine Holds.of_body' (fn:=Tryz.f91) 6 0 [.tmp 2] Tryz.func91 rfl rfl rfl rfl rfl (by simp) ?_
  repeat' (first|(refine Xr X0 ?_;intro K hK)|refine Xo X0 ?_|(refine hK _ ?_;clear hK K)|(refine Xg X0 ?_ ?_<;>try intro hb)|(refine Xi ?_ ?_<;>try intro ht)|refine Xz ?_|refine Xh ?_|(refine Xe ?_;first|refine RetOK_pure' rfl ?_|refine Xl ?_ ?_)|refine Xd ?_ ?_|omega|with_reducible rfl|exact trivial)
  (refine congrArg (fun b=>AV.lit (Value.bool b)) ?_;rw[Bool.eq_iff_iff];simp only[gt_iff_lt,decide_eq_true_eq,beq_iff_eq,bne_iff_ne,Bool.and_eq_true,Bool.or_eq_true,Bool.not_eq_true',decide_eq_false_iff_not,Bool.false_eq_true,reduceCtorEq,iff_true,iff_false,true_iff,false_iff,eq_self];omega)
theorem large_ok (m:Mdl) (hm:MB m):Holds Tryz.prog 65 [.agg (eMdl m)] [] (.lit (.bool (largeB m))) []:=by
  have h1:=hm.cls
  have h2:=containsCls_ok m.cls 91 [] [] (fun l=>decide (24<l.length)) h1 (fun x _=>by simpa using large1_ok x)
  unfold largeB
  generalize m.cls.any (fun l=>decide (24<l.length))=b at *
  cases b
  all_goals refine Holds.of_body' (fn:=Tryz.f65) 36 0 [.tmp 2] Tryz.func65 rfl rfl rfl rfl rfl (by simp) ?_
  all_goals repeat' (first|(refine Xq X0 ?_;intro K hK)|refine Xo X0 ?_|refine Xc (h2) ?_|(refine hK _ ?_;clear hK K)|(refine Xg X0 ?_ ?_<;>try intro hb)|(refine Xi ?_ ?_<;>try intro ht)|refine Xz ?_|refine Xh ?_|(refine Xe ?_;first|refine RetOK_pure' rfl ?_|refine Xl ?_ ?_)|refine Xd ?_ ?_|omega|with_reducible rfl|exact trivial)
  all_goals first|rfl|(simp;done)|(refine congrArg (fun b=>AV.lit (Value.bool b)) ?_;rw[Bool.eq_iff_iff];simp only[or_true,true_or,or_false,false_or,decide_eq_true_eq,beq_iff_eq,bne_iff_ne,Bool.and_eq_true,Bool.or_eq_true,Bool.not_eq_true',decide_eq_false_iff_not,Bool.false_eq_true,reduceCtorEq,iff_true,iff_false,true_iff,false_iff,eq_self];omega)
theorem charged_ok (m:Mdl) (o:Opt) (ho:o.ch.length<9223372036854775808):Holds Tryz.prog 68 [.agg (eMdl m),.agg (eOpt o)] [] (.lit (.bool (chL m.rules none o.ch))) []:=by
  generalize hres:chL m.rules none o.ch=res
  refine Holds.of_body' (fn:=Tryz.f68) 43 0 [.tmp 4] Tryz.func68 rfl rfl rfl rfl rfl (by simp) ?_
  repeat' (first|(refine Xr X0 ?_;intro K hK)|refine Xo X0 ?_|(refine hK _ ?_;clear hK K)|(refine Xg X0 ?_ ?_<;>try intro hb)|(refine Xi ?_ ?_<;>try intro ht)|refine Xz ?_|refine Xh ?_|(refine Xe ?_;first|refine RetOK_pure' rfl ?_|refine Xl ?_ ?_)|refine Xd ?_ ?_|omega|with_reducible rfl|exact trivial)
  refine W_loopS (fun k:Nat=>(⟨slots [(2,.ptr 0 0 0),(3,.ptr 1 0 0),(8,.tree 2 (rowsOf eCh o.ch)),(9,.lit (.int .i64 o.ch.length)),(10,.lit (.int .i64 k))],[.var (eMdl m),.var (eOpt o)]⟩:St)) (fun k=>k≤o.ch.length∧chL m.rules (prevAt o.ch k) (o.ch.drop k)=res) (fun k=>o.ch.length - k) 0 ⟨Nat.zero_le _,hres⟩ (Xv X0) ?_
  rintro k ⟨hk,hr⟩ Ql hnl hel
  by_cases hk':k<o.ch.length
  · have hd:=getD_drop0 o.ch k default hk'
    generalize hcc:o.ch.getD k default=c at *
    rw[hd,chL_at] at hr
    have hnc:=named_ok m c.1
    have hk1:((k:Int) - 1).toNat=k - 1:=by omega
    repeat' (first|(refine Xq (X2 @hcc @hk1) ?_;intro K hK)|refine Xo (X2 @hcc @hk1) ?_|refine Xc (hnc) ?_|refine Xc (mcost_ok c.2) ?_|(refine hK _ ?_;clear hK K)|(refine Xg (X2 @hcc @hk1) ?_ ?_<;>try intro hb)|(refine Xi ?_ ?_<;>try intro ht)|refine Xz ?_|refine Xh ?_|(refine Xe ?_;first|refine RetOK_pure' rfl ?_|refine Xl ?_ ?_)|refine Xd ?_ ?_|omega|with_reducible rfl|exact trivial)
    · rw[← hr];simp[*]
    · rw[← hr];simp[*]
    · rw[← hr,decide_eq_false (p:=k=0) (by omega),decide_eq_false (p:=_<c.1) (by omega)];simp
    · refine hnl _ (k+1) ⟨by omega,?_⟩ (by omega) (Xs false [0,1] X0)
      rw[prevAt_succ,hcc,← hr,decide_eq_true (p:=_<c.1) ht];simp[*]
    · refine hnl _ (k+1) ⟨by omega,?_⟩ (by omega) (Xs false [0,1] X0)
      rw[prevAt_succ,hcc,← hr,decide_eq_true (p:=k=0) (by omega)];simp[*]
  · repeat' (first|(refine Xr X0 ?_;intro K hK)|refine Xo X0 ?_|(refine hK _ ?_;clear hK K)|(refine Xg X0 ?_ ?_<;>try intro hb)|(refine Xi ?_ ?_<;>try intro ht)|refine Xz ?_|refine Xh ?_|(refine Xe ?_;first|refine RetOK_pure' rfl ?_|refine Xl ?_ ?_)|refine Xd ?_ ?_|omega|with_reducible rfl|exact trivial)
    rw[List.drop_eq_nil_of_le (by omega),chL] at hr
    rw[← hr]
theorem order_ok (a b:Pr):Holds Tryz.prog 70 [.agg (ePr a),.agg (ePr b)] [] (.lit (.int .i64 (ordV a b))) []:=by
  refine Holds.of_body' (fn:=Tryz.f70) 22 0 [.tmp 4] Tryz.func70 rfl rfl rfl rfl rfl (by simp) ?_
  repeat' (first|(refine Xr X0 ?_;intro K hK)|refine Xo X0 ?_|(refine hK _ ?_;clear hK K)|(refine Xg X0 ?_ ?_<;>try intro hb)|(refine Xi ?_ ?_<;>try intro ht)|refine Xz ?_|refine Xh ?_|(refine Xe ?_;first|refine RetOK_pure' rfl ?_|refine Xl ?_ ?_)|refine Xd ?_ ?_|omega|with_reducible rfl|exact trivial)
  (try (first|refine W_draw_q [4,9,14] rfl (by decide) (by decide +kernel) ?_|refine W_draw_qe [4,9,14] rfl (by decide) (by decide +kernel) ?_);intro K hK;simp (disch:=omega) only[Ac,↓Pc,simprocAttr])
  repeat' (first|(refine Xq X0 ?_;intro K hK)|refine Xo X0 ?_|refine Xc (compare_ok _ _) ?_|(refine hK _ ?_;clear hK K)|(refine Xg X0 ?_ ?_<;>try intro hb)|(refine Xi ?_ ?_<;>try intro ht)|refine Xz ?_|refine Xh ?_|(refine Xe ?_;first|refine RetOK_pure' rfl ?_|refine Xl ?_ ?_)|refine Xd ?_ ?_|omega|with_reducible rfl|exact trivial)
  refine callK_snap [] (or_ok [cmp3 a.rule b.rule,cmp3 a.fst b.fst,cmp3 a.snd b.snd] (by simp)) (by decide) trivial ⟨ArgR.frz rfl (ints_wid _) rfl (by decide) (ints_frz _),trivial⟩ rfl (by simp) ?_
  repeat' (first|(refine Xr X0 ?_;intro K hK)|refine Xo X0 ?_|(refine hK _ ?_;clear hK K)|(refine Xg X0 ?_ ?_<;>try intro hb)|(refine Xi ?_ ?_<;>try intro ht)|refine Xz ?_|refine Xh ?_|(refine Xe ?_;first|refine RetOK_pure' rfl ?_|refine Xl ?_ ?_)|refine Xd ?_ ?_|omega|with_reducible rfl|exact trivial)
  · rfl
theorem badN_ok (n:Int):Holds Tryz.prog 96 [.lit (.int .i64 n)] [] (.lit (.bool (badN n))) []:=by
  refine Holds.of_body' (fn:=Tryz.f96) 10 0 [.tmp 2] Tryz.func96 rfl rfl rfl rfl rfl (by simp) ?_
  repeat' (first|(refine Xq X0 ?_;intro K hK)|refine Xo X0 ?_|refine Xc (mcost_ok n) ?_|(refine hK _ ?_;clear hK K)|(refine Xg X0 ?_ ?_<;>try intro hb)|(refine Xi ?_ ?_<;>try intro ht)|refine Xz ?_|refine Xh ?_|(refine Xe ?_;first|refine RetOK_pure' rfl ?_|refine Xl ?_ ?_)|refine Xd ?_ ?_|omega|with_reducible rfl|exact trivial)
  all_goals (simp[badN, *]<;>omega)
theorem paired_ok (m:Mdl) (p:Pr) (hp:p.tab.length<9223372036854775808) (hm:∀ l∈m.cls,l.length≤24) (hl:m.cls.length≤24):Holds Tryz.prog 69 [.agg (eMdl m),.agg (ePr p)] [] (.lit (.bool (pairB m p))) []:=by
  have hg:∀ i,(m.cls.getD i default).length≤24:=fun i=>by
    rcases Nat.lt_or_ge i m.cls.length with h | h
    · exact hm _ (getD_mem h)
    · rw[List.getD_eq_getElem?_getD,List.getElem?_eq_none h];decide
  have h1:=hg p.fst.toNat
  have h2:=hg p.snd.toNat
  have hmul:(0:Int)≤(m.cls.getD p.fst.toNat default).length * (m.cls.getD p.snd.toNat default).length∧((m.cls.getD p.fst.toNat default).length:Int) * (m.cls.getD p.snd.toNat default).length≤24 * 24:=⟨Int.mul_nonneg (by omega) (by omega),Int.mul_le_mul (by omega) (by omega) (by omega) (by omega)⟩
  have hc:=containsInt_ok p.tab 96 [] [] badN hp (fun x _=>by simpa using badN_ok x)
  unfold pairB
  generalize hmm:((m.cls.getD p.fst.toNat default).length:Int) * (m.cls.getD p.snd.toNat default).length=mm at *
  refine Holds.of_body' (fn:=Tryz.f69) 55 0 [.tmp 4] Tryz.func69 rfl rfl rfl rfl rfl (by simp) ?_
  repeat' (first|(refine Xq @hmm ?_;intro K hK)|refine Xo @hmm ?_|refine Xc (named_ok m p.rule) ?_|refine Xc (hc) ?_|(refine hK _ ?_;clear hK K)|(refine Xg @hmm ?_ ?_<;>try intro hb)|(refine Xi ?_ ?_<;>try intro ht)|refine Xz ?_|refine Xh ?_|(refine Xe ?_;first|refine RetOK_pure' rfl ?_|refine Xl ?_ ?_)|refine Xd ?_ ?_|omega|with_reducible rfl|exact trivial)
  · rw[hb];rfl
  iterate 4
    · rw[decide_eq_false (by omega)];simp
  · rw[decide_eq_true (by omega)];simp[*]
end T
open Go Go.Am Go.Proofs
open Nat (reduceEqDiff reduceAdd reduceLeDiff reduceMul)
open Int (reduceNeg reduceLE reduceToNat)
set_option maxRecDepth 20000
namespace T
theorem counted_ok (m:Mdl) (c:Ct) (hc:c.loads.length<9223372036854775808):Holds Tryz.prog 73 [.agg (eMdl m),.agg (eCt c)] [] (.lit (.bool (ctB m c))) []:=by
  have hnm:=named_ok m c.rule
  have hpr:=mcost_ok c.pen
  generalize hres:ctB m c=res
  unfold ctB at hres
  refine Holds.of_body' (fn:=Tryz.f73) 81 0 [.tmp 4] Tryz.func73 rfl rfl rfl rfl rfl (by simp) ?_
  repeat' (first|(refine Xq X0 ?_;intro K hK)|refine Xo X0 ?_|refine Xc (hnm) ?_|refine Xc (hpr) ?_|(refine hK _ ?_;clear hK K)|(refine Xg X0 ?_ ?_<;>try intro hb)|(refine Xi ?_ ?_<;>try intro ht)|refine Xz ?_|refine Xh ?_|(refine Xe ?_;first|refine RetOK_pure' rfl ?_|refine Xl ?_ ?_)|refine Xd ?_ ?_|omega|with_reducible rfl|exact trivial)
  · rw[← hres,hb];rfl
  · rw[← hres,decide_eq_false (by omega)];simp
  · rw[← hres,decide_eq_false (by omega)];simp
  · rw[← hres,ht];simp
  have hin:(ruleB m.rules c.rule && decide (0≤c.most∧c.most≤1048576) && priceB c.pen)=true:=by rw[decide_eq_true (by omega)];simp[*]
  rw[hin,Bool.true_and] at hres
  refine W_loopS (fun k:Nat=>(⟨slots [(2,.ptr 0 0 0),(3,.ptr 1 0 0),(29,.tree 3 (rowsOf eLd c.loads)),(30,.lit (.int .i64 c.loads.length)),(31,.lit (.int .i64 k))],[.var (eMdl m),.var (eCt c)]⟩:St)) (fun k=>k≤c.loads.length∧ldL m (prevAt c.loads k) (c.loads.drop k)=res) (fun k=>c.loads.length - k) 0 ⟨Nat.zero_le _,hres⟩ (Xv X0) ?_
  rintro k ⟨hk,hr⟩ Ql hnl hel
  by_cases hk':k<c.loads.length
  · have hd:=getD_drop0 c.loads k default hk'
    generalize hcc:c.loads.getD k default=x at *
    rw[hd,ldL_at] at hr
    have hk1:((k:Int) - 1).toNat=k - 1:=by omega
    generalize hpp:c.loads.getD (k - 1) default=y at *
    repeat' (first|(refine Xr (X2 @hcc @hk1) ?_;intro K hK)|refine Xo (X2 @hcc @hk1) ?_|refine Xc (option_ok m x.cls x.opt) ?_|(refine hK _ ?_;clear hK K)|(refine Xg (X2 @hcc @hk1) ?_ ?_<;>try intro hb)|(refine Xi ?_ ?_<;>try intro ht)|refine Xz ?_|refine Xh ?_|(refine Xe ?_;first|refine RetOK_pure' rfl ?_|refine Xl ?_ ?_)|refine Xd ?_ ?_|omega|with_reducible rfl|exact trivial)
    · rw[← hr,hb];simp
    · rw[← hr,decide_eq_false (p:=1≤x.wt∧x.wt≤1000) (by omega)];simp
    · rw[← hr,decide_eq_false (p:=1≤x.wt∧x.wt≤1000) (by omega)];simp
    have hw:decide (1≤x.wt∧x.wt≤1000)=true:=decide_eq_true (by omega)
    have hob:optB m x.cls x.opt=true:=by assumption
    rw[hob,hw,Bool.true_and,Bool.true_and] at hr
    (try (first|refine W_draw_q [12,22] rfl (by decide) (by decide +kernel) ?_|refine W_draw_qe [12,22] rfl (by decide) (by decide +kernel) ?_);intro K hK;simp (disch:=omega) only[Ac,↓Pc,simprocAttr,hcc,hk1,hpp])
    repeat' (first|(refine Xq (X3 @hcc @hk1 @hpp) ?_;intro K hK)|refine Xo (X3 @hcc @hk1 @hpp) ?_|refine Xc (compare_ok _ _) ?_|(refine hK _ ?_;clear hK K)|(refine Xg (X3 @hcc @hk1 @hpp) ?_ ?_<;>try intro hb)|(refine Xi ?_ ?_<;>try intro ht)|refine Xz ?_|refine Xh ?_|(refine Xe ?_;first|refine RetOK_pure' rfl ?_|refine Xl ?_ ?_)|refine Xd ?_ ?_|omega|with_reducible rfl|exact trivial)
    · refine callK_snap [] (or_ok [cmp3 y.cls x.cls,cmp3 y.opt x.opt] (by simp)) (by decide) trivial ⟨ArgR.frz rfl (ints_wid _) rfl (by decide) (ints_frz _),trivial⟩ rfl (by simp) ?_
      repeat' (first|(refine Xr (X3 @hcc @hk1 @hpp) ?_;intro K hK)|refine Xo (X3 @hcc @hk1 @hpp) ?_|(refine hK _ ?_;clear hK K)|(refine Xg (X3 @hcc @hk1 @hpp) ?_ ?_<;>try intro hb)|(refine Xi ?_ ?_<;>try intro ht)|refine Xz ?_|refine Xh ?_|(refine Xe ?_;first|refine RetOK_pure' rfl ?_|refine Xl ?_ ?_)|refine Xd ?_ ?_|omega|with_reducible rfl|exact trivial)
      · rw[← hr,decide_eq_false (p:=k=0) (by omega),decide_eq_false (p:=ldOrd y x<0) (by unfold ldOrd;omega)];simp
      · refine hnl _ (k+1) ⟨by omega,?_⟩ (by omega) (Xs false [0,1] X0)
        rw[prevAt_succ,hcc,← hr,decide_eq_true (p:=ldOrd y x<0) (by unfold ldOrd;omega)];simp
    · refine hnl _ (k+1) ⟨by omega,?_⟩ (by omega) (Xs false [0,1] X0)
      rw[prevAt_succ,hcc,← hr,decide_eq_true (p:=k=0) (by omega)];simp
  · repeat' (first|(refine Xr X0 ?_;intro K hK)|refine Xo X0 ?_|(refine hK _ ?_;clear hK K)|(refine Xg X0 ?_ ?_<;>try intro hb)|(refine Xi ?_ ?_<;>try intro ht)|refine Xz ?_|refine Xh ?_|(refine Xe ?_;first|refine RetOK_pure' rfl ?_|refine Xl ?_ ?_)|refine Xd ?_ ?_|omega|with_reducible rfl|exact trivial)
    rw[List.drop_eq_nil_of_le (by omega),ldL] at hr
    rw[← hr]
theorem valid1_ok (m:Mdl) (o:Opt) (ho:o.ch.length<9223372036854775808):Holds Tryz.prog 67 [.agg (eOpt o),.ptr 0 0 0] [.var (eMdl m)] (.lit (.bool (!chL m.rules none o.ch))) [.var (eMdl m)]:=by
  refine Holds.of_body' (fn:=Tryz.f67) 8 1 [.tmp 3] Tryz.func67 rfl rfl rfl rfl rfl (by simp) ?_
  repeat' (first|(refine Xq X0 ?_;intro K hK)|refine Xo X0 ?_|refine Xc (charged_ok m o ho) ?_|(refine hK _ ?_;clear hK K)|(refine Xg X0 ?_ ?_<;>try intro hb)|(refine Xi ?_ ?_<;>try intro ht)|refine Xz ?_|refine Xh ?_|refine Xe ?_|refine Xd ?_ ?_|omega|with_reducible rfl|exact trivial)
  exact Xw false [0] X0
theorem valid2_ok (m:Mdl) (c:Ct) (hc:c.loads.length<9223372036854775808):Holds Tryz.prog 72 [.agg (eCt c),.ptr 0 0 0] [.var (eMdl m)] (.lit (.bool (!ctB m c))) [.var (eMdl m)]:=by
  refine Holds.of_body' (fn:=Tryz.f72) 8 1 [.tmp 3] Tryz.func72 rfl rfl rfl rfl rfl (by simp) ?_
  repeat' (first|(refine Xq X0 ?_;intro K hK)|refine Xo X0 ?_|refine Xc (counted_ok m c hc) ?_|(refine hK _ ?_;clear hK K)|(refine Xg X0 ?_ ?_<;>try intro hb)|(refine Xi ?_ ?_<;>try intro ht)|refine Xz ?_|refine Xh ?_|refine Xe ?_|refine Xd ?_ ?_|omega|with_reducible rfl|exact trivial)
  exact Xw false [0] X0
theorem any_drop {α:Type} [Inhabited α] {l:List α} {f:α→Bool} {k:Nat} (hk:k<l.length):(l.drop k).any f=(f (l.getD k default) || (l.drop (k+1)).any f):=by
  rw[getD_drop0 l k default hk,List.any_cons]
theorem valid_ok (m:Mdl) (hm:MB m):Holds Tryz.prog 35 [.agg (eMdl m)] [] (.lit (.int .i64 (validV m))) []:=by
  generalize hres:validV m=res
  unfold validV at hres
  have hm1:=hm.cls
  have hm2:=hm.prs
  refine Holds.of_body' (fn:=Tryz.f35) 52 0 [.tmp 2] Tryz.func35 rfl rfl rfl rfl rfl (by simp) ?_
  repeat' (first|(refine Xq X0 ?_;intro K hK)|refine Xo X0 ?_|refine Xc (large_ok m hm) ?_|(refine hK _ ?_;clear hK K)|(refine Xg X0 ?_ ?_<;>try intro hb)|(refine Xi ?_ ?_<;>try intro ht)|refine Xz ?_|refine Xh ?_|(refine Xe ?_;first|refine RetOK_pure' rfl ?_|refine Xl ?_ ?_)|refine Xd ?_ ?_|omega|with_reducible rfl|exact trivial)
  · rw[if_pos ht] at hres;rw[← hres]
  rw[if_neg (by simp[ht])] at hres
  have hsz:m.cls.length≤24∧∀ l∈m.cls,l.length≤24:=by
    have h:=ht
    unfold largeB at h
    rw[decide_eq_false_iff_not] at h
    refine⟨by omega,fun l hl=>?_⟩
    rcases Nat.lt_or_ge 24 l.length with h1 | h1
    · exact absurd (.inr (.inl (List.any_eq_true.2 ⟨l,hl,by simpa using h1⟩))) h
    · exact h1
  clear ht
  refine W_loopS (fun k:Nat=>(⟨slots [(1,.ptr 0 0 0),(10,.tree 1 (rowsOf eCls m.cls)),(11,.lit (.int .i64 m.cls.length)),(12,.lit (.int .i64 k))],[.var (eMdl m)]⟩:St)) (fun k=>k≤m.cls.length∧(m.cls.any fun l=>l.any fun o=>!chL m.rules none o.ch)=(m.cls.drop k).any fun l=>l.any fun o=>!chL m.rules none o.ch) (fun k=>m.cls.length - k) 0 ⟨Nat.zero_le _,rfl⟩ (Xv X0) ?_
  rintro k ⟨hk,hr⟩ Ql hnl hel
  by_cases hk':k<m.cls.length
  · have hmem:=getD_mem (d:=(default:List Opt)) hk'
    rw[any_drop hk'] at hr
    generalize hcc:m.cls.getD k default=l at *
    have hcall:=containsOpt_ok l 67 [.ptr 0 0 0] [.var (eMdl m)] (fun o=>!chL m.rules none o.ch) (hm.opt l hmem) (fun o ho=>by simpa using valid1_ok m o (hm.ch l hmem o ho))
    repeat' (first|(refine Xr @hcc ?_;intro K hK)|refine Xo @hcc ?_|(refine hK _ ?_;clear hK K)|(refine Xg @hcc ?_ ?_<;>try intro hb)|(refine Xi ?_ ?_<;>try intro ht)|refine Xz ?_|refine Xh ?_|(refine Xe ?_;first|refine RetOK_pure' rfl ?_|refine Xl ?_ ?_)|refine Xd ?_ ?_|omega|with_reducible rfl|exact trivial)
    refine callK_all hcall (Nat.le_refl _) ?_
    repeat' (first|(refine Xr @hcc ?_;intro K hK)|refine Xo @hcc ?_|(refine hK _ ?_;clear hK K)|(refine Xg @hcc ?_ ?_<;>try intro hb)|(refine Xi ?_ ?_<;>try intro ht)|refine Xz ?_|refine Xh ?_|(refine Xe ?_;first|refine RetOK_pure' rfl ?_|refine Xl ?_ ?_)|refine Xd ?_ ?_|omega|with_reducible rfl|exact trivial)
    · rw[ht,Bool.true_or] at hr
      rw[if_pos hr] at hres;rw[← hres]
    · rw[ht,Bool.false_or] at hr
      exact hnl _ (k+1) ⟨by omega,hr⟩ (by omega) (Xv X0)
  rw[List.drop_eq_nil_of_le (by omega),List.any_nil] at hr
  rw[if_neg (by rw[hr];simp)] at hres
  repeat' (first|(refine Xr X0 ?_;intro K hK)|refine Xo X0 ?_|(refine hK _ ?_;clear hK K)|(refine Xg X0 ?_ ?_<;>try intro hb)|(refine Xi ?_ ?_<;>try intro ht)|refine Xz ?_|refine Xe ?_|refine Xd ?_ ?_|omega|with_reducible rfl|exact trivial)
  refine Xh ?_
  clear hr hk' hk
  repeat (first|refine Xu ?_)
  repeat' (first|(refine Xr X0 ?_;intro K hK)|refine Xo X0 ?_|(refine hK _ ?_;clear hK K)|(refine Xg X0 ?_ ?_<;>try intro hb)|(refine Xi ?_ ?_<;>try intro ht)|refine Xz ?_|refine Xh ?_|(refine Xe ?_;first|refine RetOK_pure' rfl ?_|refine Xl ?_ ?_)|refine Xd ?_ ?_|omega|with_reducible rfl|exact trivial)
  refine W_loopS (fun k:Nat=>(⟨slots [(1,.ptr 0 0 0),(21,.tree 4 (rowsOf ePr m.prs)),(22,.lit (.int .i64 m.prs.length)),(23,.lit (.int .i64 k))],[.var (eMdl m)]⟩:St)) (fun k=>k≤m.prs.length∧prsL m none m.prs=prsL m (prevAt m.prs k) (m.prs.drop k)) (fun k=>m.prs.length - k) 0 ⟨Nat.zero_le _,rfl⟩ (Xv X0) ?_
  rintro k ⟨hk,hr⟩ Ql hnl hel
  by_cases hk':k<m.prs.length
  · have hmem:=getD_mem (d:=(default:Pr)) hk'
    have hd:=getD_drop0 m.prs k default hk'
    have hk1:((k:Int) - 1).toNat=k - 1:=by omega
    generalize hcc:m.prs.getD k default=p at *
    rw[hd,prsL_at] at hr
    generalize hpp:m.prs.getD (k - 1) default=q at *
    repeat' (first|(refine Xq (X3 @hcc @hk1 @hpp) ?_;intro K hK)|refine Xo (X3 @hcc @hk1 @hpp) ?_|refine Xc (paired_ok m p (hm.tab p hmem) hsz.2 hsz.1) ?_|refine Xc (order_ok q p) ?_|(refine hK _ ?_;clear hK K)|(refine Xg (X3 @hcc @hk1 @hpp) ?_ ?_<;>try intro hb)|(refine Xi ?_ ?_<;>try intro ht)|refine Xz ?_|refine Xh ?_|(refine Xe ?_;first|refine RetOK_pure' rfl ?_|refine Xl ?_ ?_)|refine Xd ?_ ?_|omega|with_reducible rfl|exact trivial)
    · have hpf:pairB m p=false:=by assumption
      rw[hpf,Bool.false_and,Bool.false_and] at hr
      rw[if_pos hr] at hres;rw[← hres]
    · rw[decide_eq_false (p:=k=0) (by omega),decide_eq_false (p:=ordV q p<0) (by omega),Bool.or_false,Bool.and_false,Bool.false_and] at hr
      rw[if_pos hr] at hres;rw[← hres]
    · have hpf:pairB m p=true:=by assumption
      rw[hpf,decide_eq_true (p:=ordV q p<0) (by omega),Bool.or_true,Bool.true_and,Bool.true_and] at hr
      refine hnl _ (k+1) ⟨by omega,?_⟩ (by omega) (Xs false [0] X0)
      rw[prevAt_succ,hcc];exact hr
    · have hpf:pairB m p=true:=by assumption
      rw[hpf,decide_eq_true (p:=k=0) (by omega),Bool.true_or,Bool.true_and,Bool.true_and] at hr
      refine hnl _ (k+1) ⟨by omega,?_⟩ (by omega) (Xs false [0] X0)
      rw[prevAt_succ,hcc];exact hr
  rw[List.drop_eq_nil_of_le (by omega),prsL] at hr
  rw[if_neg (by rw[hr];simp)] at hres
  repeat' (first|(refine Xr X0 ?_;intro K hK)|refine Xo X0 ?_|(refine hK _ ?_;clear hK K)|(refine Xg X0 ?_ ?_<;>try intro hb)|(refine Xi ?_ ?_<;>try intro ht)|refine Xz ?_|refine Xe ?_|refine Xd ?_ ?_|omega|with_reducible rfl|exact trivial)
  refine Xh ?_
  clear hr hk' hk
  repeat (first|refine Xu ?_)
  have hcall:=containsCt_ok m.cts 72 [.ptr 0 0 0] [.var (eMdl m)] (fun c=>!ctB m c) hm.cts (fun c hc=>by simpa using valid2_ok m c (hm.lds c hc))
  repeat' (first|(refine Xr X0 ?_;intro K hK)|refine Xo X0 ?_|(refine hK _ ?_;clear hK K)|(refine Xg X0 ?_ ?_<;>try intro hb)|(refine Xi ?_ ?_<;>try intro ht)|refine Xz ?_|refine Xh ?_|(refine Xe ?_;first|refine RetOK_pure' rfl ?_|refine Xl ?_ ?_)|refine Xd ?_ ?_|omega|with_reducible rfl|exact trivial)
  refine callK_all hcall (Nat.le_refl _) ?_
  repeat' (first|(refine Xr X0 ?_;intro K hK)|refine Xo X0 ?_|(refine hK _ ?_;clear hK K)|(refine Xg X0 ?_ ?_<;>try intro hb)|(refine Xi ?_ ?_<;>try intro ht)|refine Xz ?_|refine Xh ?_|(refine Xe ?_;first|refine RetOK_pure' rfl ?_|refine Xl ?_ ?_)|refine Xd ?_ ?_|omega|with_reducible rfl|exact trivial)
  · rw[if_pos ht] at hres;rw[← hres]
  · rw[if_neg (by rw[ht];simp)] at hres;rw[← hres]
end T

