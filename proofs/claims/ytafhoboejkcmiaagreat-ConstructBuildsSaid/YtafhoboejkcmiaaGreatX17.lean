import Derived.Test.YtafhoboejkcmiaaGreatX11
import Derived.Test.YtafhoboejkcmiaaGreatX15
import Derived.Test.YtafhoboejkcmiaaGreatX16
set_option linter.unusedVariables false
set_option linter.unusedSimpArgs false
set_option linter.unnecessarySimpa false
set_option linter.unusedSectionVars false
set_option maxHeartbeats 64000000
set_option maxRecDepth 20000
open Go Go.Am Go.Proofs
open Nat (reduceEqDiff reduceAdd reduceLeDiff reduceMul)
open Int (reduceNeg reduceLE reduceToNat)
namespace T
theorem mod_ok (n m:Int) (hm:In64 m):Holds Tryz.prog 11 [.lit (.int .i64 n),.lit (.int .i64 m)] [] (.lit (.int .i64 (modI n m))) []:=by
  unfold In64 at hm
  refine Holds.of_body' (fn:=Tryz.f11) 16 0 [.tmp 4] Tryz.func11 rfl rfl rfl rfl rfl (by simp) ?_
  repeat' (first|(refine Xr X0 ?_;intro K hK)|(refine hK _ ?_;clear hK K)|(refine Xi ?_ ?_<;>try intro ht)|refine Xz ?_|(refine Xe ?_;first|refine RetOK_pure' rfl ?_|refine Xl ?_ ?_)|refine Xd ?_ ?_|exact Xx|fail)
  · rw[modI,if_pos ht]
  · have:=tmod_cases n m (by omega);omega
  · rw[modI,if_neg (by omega),(tmod_cases n m (by omega)).1 ht]
  · rw[modI,if_neg (by omega),(tmod_cases n m (by omega)).2.1 ht]
theorem light_ok (xs:List Int):Holds Tryz.prog 7 [.tree 1 (ints xs)] [] (.lit (.bool (decide (xs.length≤400)))) []:=by
  refine Holds.of_body' (fn:=Tryz.f7) 6 0 [.tmp 2] Tryz.func7 rfl rfl rfl rfl rfl (by simp) ?_
  repeat' (first|(refine Xr X0 ?_;intro K hK)|(refine hK _ ?_;clear hK K)|refine Xz ?_|(refine Xe ?_;first|refine RetOK_pure' rfl ?_|refine Xl ?_ ?_)|fail)
  · congr 3;simp;omega
theorem next_ok (L:List Int) (k:Nat) (n:Int) (hn:In64 n) (hk:k≤L.length) (hL:L.length<1000000):Holds Tryz.prog 48 [.ptr 0 0 0,.lit (.int .i64 n)] [.var [.tree 1 (ints L),.lit (.int .i64 k)]] (.lit (.int .i64 (nextV L k n)))
    [.var [.tree 1 (ints L),.lit (.int .i64 (nextA L k))]]:=by
  refine Holds.of_body' (fn:=Tryz.f48) 35 1 [.tmp 4] Tryz.func48 rfl rfl rfl rfl rfl (by simp) ?_
  repeat' (first|(refine Xq X0 ?_;intro K hK)|refine Xo X0 ?_|refine Xc (mod_ok _ _ hn) ?_|(refine hK _ ?_;clear hK K)|(refine Xi ?_ ?_<;>try intro ht)|refine Xz ?_|(refine Xe ?_;first|refine RetOK_pure' rfl ?_|refine Xl ?_ ?_)|refine Xd ?_ ?_|exact Xx|fail)
  · rw[nextA,if_pos (by omega)]
  · rw[nextV,if_pos (by omega)]
  · rw[nextA,if_neg (by omega),Int.natCast_add];rfl
  · rw[nextV,if_neg (by omega),show ((k:Int)+1 - 1).toNat=k by omega]
theorem one_ok (L:List Int) (k:Nat) (n:Int) (hn:In64 n) (hn0:0<n) (hk:k≤L.length) (hL:L.length<1000000):Holds Tryz.prog 19 [.ptr 0 0 0,.lit (.int .i64 n)] [.var [.tree 1 (ints L),.lit (.int .i64 k)]] (.lit (.bool (oneV L k n)))
    [.var [.tree 1 (ints L),.lit (.int .i64 (nextA L k))]]:=by
  refine Holds.of_body' (fn:=Tryz.f19) 11 1 [.tmp 4] Tryz.func19 rfl rfl rfl rfl rfl (by simp) ?_
  repeat' (first|(refine Xr X0 ?_;intro K hK)|(refine hK _ ?_;clear hK K)|fail)
  refine callK_all (next_ok L k n hn hk hL) (by simp) ?_
  unfold In64 at hn
  repeat' (first|refine Xo X0 ?_|(refine hK _ ?_;clear hK K)|refine Xz ?_|(refine Xe ?_;first|refine RetOK_pure' rfl ?_|refine Xl ?_ ?_)|refine Xd ?_ ?_|exact Xx|fail)
  · rfl
theorem dcost_ok (L:List Int) (k:Nat) (hk:k≤L.length) (hL:L.length<1000000):Holds Tryz.prog 52 [.ptr 0 0 0] [.var [.tree 1 (ints L),.lit (.int .i64 k)]] (.lit (.int .i64 (costV L k)))
    [.var [.tree 1 (ints L),.lit (.int .i64 (costA L k))]]:=by
  have h6:=nextV_range (L:=L) (k:=k) (n:=6) (by omega)
  have h20:=nextV_range (L:=L) (k:=nextA L k) (n:=20) (by omega)
  refine Holds.of_body' (fn:=Tryz.f52) 14 1 [.tmp 2] Tryz.func52 rfl rfl rfl rfl rfl (by simp) ?_
  repeat' (first|(refine Xr X0 ?_;intro K hK)|(refine hK _ ?_;clear hK K)|refine Xz ?_|fail)
  refine callK_all (next_ok L k 6 (by unfold In64;omega) hk hL) (by simp) ?_
  have c1:nextV L k 6≤3→costA L k=nextA L k:=fun h=>by rw[costA,if_pos h]
  have c2:nextV L k 6<3→costV L k=0:=fun h=>by rw[costV,if_pos h]
  have c3:nextV L k 6=3→costV L k=1099511627776:=fun h=>by rw[costV,if_neg (by omega),if_pos h]
  have c4:¬ nextV L k 6≤3→costA L k=nextA L (nextA L k):=fun h=>by rw[costA,if_neg h]
  have c5:¬ nextV L k 6≤3→costV L k=1+nextV L (nextA L k) 20:=fun h=>by rw[costV,if_neg (by omega),if_neg (by omega)]
  repeat' (first|(refine Xr X0 ?_;intro K hK)|(refine hK _ ?_;clear hK K)|(refine Xi ?_ ?_<;>try intro ht)|refine Xz ?_|(refine Xe ?_;first|refine RetOK_pure' rfl ?_|refine Xl ?_ ?_)|exact Xx|fail)
  iterate 3
    · rw[c1 (by omega)]
    · rw[c2 (by omega)]
  · rw[c1 (by omega)]
  · rw[c3 (by omega)]
  · refine callK_all (next_ok L (nextA L k) 20 (by unfold In64;omega) (nextA_le hk) hL) (by simp) ?_
    repeat' (first|refine Xo X0 ?_|(refine hK _ ?_;clear hK K)|refine Xz ?_|(refine Xe ?_;first|refine RetOK_pure' rfl ?_|refine Xl ?_ ?_)|refine Xd ?_ ?_|exact Xx|fail)
    · rw[c4 (by omega)]
    · rw[c5 (by omega)]
theorem roll_ok (L:List Int):Holds Tryz.prog 10 [.tree 1 (ints L)] [] (.ptr 0 0 0) [.var [.tree 1 (ints L),.lit (.int .i64 (0:Nat))]]:=by
  refine Holds.of_body' (fn:=Tryz.f10) 6 0 [.tmp 2] Tryz.func10 rfl rfl rfl rfl rfl (by simp) ?_
  refine Vb X0 ?_
  rw[show (0:Int)=((0:Nat):Int) from rfl]
  exact RetOK_all rfl (by simp) rfl
theorem same_ok (a b:List Int) (hl:a.length<9223372036854775808):Holds Tryz.prog 14 [.tree 1 (ints a),.tree 1 (ints b)] [] (.lit (.bool (decide (a=b)))) []:=by
  refine Holds.of_body' (fn:=Tryz.f14) 26 0 [.tmp 4] Tryz.func14 rfl rfl rfl rfl rfl (by simp) ?_
  repeat' (first|(refine Xr X0 ?_;intro K hK)|(refine hK _ ?_;clear hK K)|(refine Xi ?_ ?_<;>try intro ht)|refine Xz ?_|(refine Xe ?_;first|refine RetOK_pure' rfl ?_|refine Xl ?_ ?_)|fail)
  · congr 2;simp;intro h;subst h;exact absurd rfl ht
  · refine W_loopS (fun k:Nat=>(⟨slots [(0,.tree 1 (ints a)),(1,.tree 1 (ints b)),(5,.lit (.int .i64 k))],[]⟩:St)) (fun k=>k≤a.length∧(a=b↔a.drop k=b.drop k)) (fun k=>a.length - k) 0 ⟨Nat.zero_le _,by simp⟩ (Xv X0) ?_
    intro k ⟨hk,hc⟩ Ql hnl hel
    repeat' (first|(refine Xr X0 ?_;intro K hK)|(refine hK _ ?_;clear hK K)|(refine Xi ?_ ?_<;>try intro ht)|refine Xz ?_|refine Xh ?_|(refine Xe ?_;first|refine RetOK_pure' rfl ?_|refine Xl ?_ ?_)|refine Xd ?_ ?_|exact Xx|fail)
    · congr 2;simp only[decide_eq_false_iff_not,eq_comm (a:=false)]
      rw[hc,getD_drop0 _ _ 0 (by omega),getD_drop0 b _ 0 (by omega)]
      simp only[List.cons.injEq]
      exact fun h=>ht h.1
    · refine hnl _ (k+1) ⟨by omega,?_⟩ (by omega) (Xv X0)
      rw[hc,getD_drop0 _ _ 0 (by omega),getD_drop0 b _ 0 (by omega),ht]
      simp
    · congr 2
      rw[show a=b by rw[hc,List.drop_eq_nil_of_le (by omega),List.drop_eq_nil_of_le (by omega)]]
      simp
theorem add_ok (a b:Int) (ha:In41 a) (hb:In41 b):Holds Tryz.prog 55 [.lit (.int .i64 a),.lit (.int .i64 b)] [] (.lit (.int .i64 (addC a b))) []:=by
  unfold In41 at *
  refine Holds.of_body' (fn:=Tryz.f55) 9 0 [.tmp 4] Tryz.func55 rfl rfl rfl rfl rfl (by simp) ?_
  repeat' (first|(refine Xr X0 ?_;intro K hK)|(refine hK _ ?_;clear hK K)|refine Xz ?_|(refine Xe ?_;first|refine RetOK_pure' rfl ?_|refine Xl ?_ ?_)|refine Xd ?_ ?_|exact Xx|fail)
  · rfl
theorem mcost_ok (n:Int):Holds Tryz.prog 100 [.lit (.int .i64 n)] [] (.lit (.bool (priceB n))) []:=by
  refine Holds.of_body' (fn:=Tryz.f100) 13 0 [.tmp 2] Tryz.func100 rfl rfl rfl rfl rfl (by simp) ?_
  repeat' (first|(refine Xr X0 ?_;intro K hK)|(refine hK _ ?_;clear hK K)|(refine Xg X0 ?_ ?_<;>try intro hb)|refine Xz ?_|(refine Xe ?_;first|refine RetOK_pure' rfl ?_|refine Xl ?_ ?_)|fail)
  all_goals (refine congrArg (fun b=>AV.lit (Value.bool b)) ?_;rw[Bool.eq_iff_iff];simp only[priceB,decide_eq_true_eq,beq_iff_eq,bne_iff_ne,Bool.and_eq_true,Bool.or_eq_true,Bool.not_eq_true',decide_eq_false_iff_not,Bool.false_eq_true,reduceCtorEq,iff_true,iff_false,true_iff,false_iff,eq_self];omega)
theorem price_ok (n:Int):Holds Tryz.prog 84 [.lit (.int .i64 n)] [] (.lit (.bool (priceB n))) []:=by
  refine Holds.of_body' (fn:=Tryz.f84) 13 0 [.tmp 2] Tryz.func84 rfl rfl rfl rfl rfl (by simp) ?_
  repeat' (first|(refine Xr X0 ?_;intro K hK)|(refine hK _ ?_;clear hK K)|(refine Xg X0 ?_ ?_<;>try intro hb)|refine Xz ?_|(refine Xe ?_;first|refine RetOK_pure' rfl ?_|refine Xl ?_ ?_)|fail)
  all_goals (refine congrArg (fun b=>AV.lit (Value.bool b)) ?_;rw[Bool.eq_iff_iff];simp only[priceB,decide_eq_true_eq,beq_iff_eq,bne_iff_ne,Bool.and_eq_true,Bool.or_eq_true,Bool.not_eq_true',decide_eq_false_iff_not,Bool.false_eq_true,reduceCtorEq,iff_true,iff_false,true_iff,false_iff,eq_self];omega)
theorem named_ok (m:Mdl) (n:Int):Holds Tryz.prog 99 [.agg (eMdl m),.lit (.int .i64 n)] [] (.lit (.bool (ruleB m.rules n))) []:=by
  refine Holds.of_body' (fn:=Tryz.f99) 13 0 [.tmp 4] Tryz.func99 rfl rfl rfl rfl rfl (by simp) ?_
  repeat' (first|(refine Xr @eMdl.eq_1 ?_;intro K hK)|(refine hK _ ?_;clear hK K)|(refine Xg @eMdl.eq_1 ?_ ?_<;>try intro hb)|refine Xz ?_|(refine Xe ?_;first|refine RetOK_pure' rfl ?_|refine Xl ?_ ?_)|fail)
  all_goals (refine congrArg (fun b=>AV.lit (Value.bool b)) ?_;rw[Bool.eq_iff_iff];simp only[ruleB,decide_eq_true_eq,beq_iff_eq,bne_iff_ne,Bool.and_eq_true,Bool.or_eq_true,Bool.not_eq_true',decide_eq_false_iff_not,Bool.false_eq_true,reduceCtorEq,iff_true,iff_false,true_iff,false_iff,eq_self];omega)
theorem rule_ok (m:Mdl) (n:Int):Holds Tryz.prog 83 [.agg (eMdl m),.lit (.int .i64 n)] [] (.lit (.bool (ruleB m.rules n))) []:=by
  refine Holds.of_body' (fn:=Tryz.f83) 13 0 [.tmp 4] Tryz.func83 rfl rfl rfl rfl rfl (by simp) ?_
  repeat' (first|(refine Xr @eMdl.eq_1 ?_;intro K hK)|(refine hK _ ?_;clear hK K)|(refine Xg @eMdl.eq_1 ?_ ?_<;>try intro hb)|refine Xz ?_|(refine Xe ?_;first|refine RetOK_pure' rfl ?_|refine Xl ?_ ?_)|fail)
  all_goals (refine congrArg (fun b=>AV.lit (Value.bool b)) ?_;rw[Bool.eq_iff_iff];simp only[ruleB,decide_eq_true_eq,beq_iff_eq,bne_iff_ne,Bool.and_eq_true,Bool.or_eq_true,Bool.not_eq_true',decide_eq_false_iff_not,Bool.false_eq_true,reduceCtorEq,iff_true,iff_false,true_iff,false_iff,eq_self];omega)
theorem isNaN_ok (n:Int):Holds Tryz.prog 92 [.lit (.int .i64 n)] [] (.lit (.bool false)) []:=by
  refine Holds.of_body' (fn:=Tryz.f92) 6 0 [.tmp 2] Tryz.func92 rfl rfl rfl rfl rfl (by simp) ?_
  repeat' (first|(refine Xr @bne_self_eq_false.{0} ?_;intro K hK)|(refine hK _ ?_;clear hK K)|refine Xz ?_|(refine Xe ?_;first|refine RetOK_pure' rfl ?_|refine Xl ?_ ?_)|exact Xx|fail)
theorem compare_ok (a b:Int):Holds Tryz.prog 46 [.lit (.int .i64 a),.lit (.int .i64 b)] [] (.lit (.int .i64 (cmp3 a b))) []:=by
  refine Holds.of_body' (fn:=Tryz.f46) 20 0 [.tmp 4] Tryz.func46 rfl rfl rfl rfl rfl (by simp) ?_
  repeat' (first|(refine Xq X0 ?_;intro K hK)|refine Xo X0 ?_|refine Xc (isNaN_ok _) ?_|(refine hK _ ?_;clear hK K)|(refine Xi ?_ ?_<;>try intro ht)|refine Xz ?_|(refine Xe ?_;first|refine RetOK_pure' rfl ?_|refine Xl ?_ ?_)|exact Xx|fail)
  all_goals (unfold cmp3;congr 2;(repeat' split)<;>omega)
theorem or_ok (l:List Int) (hl:l.length<1000000):Holds Tryz.prog 45 [.tree 1 (ints l)] [] (.lit (.int .i64 (orL l))) []:=by
  generalize hres:orL l=res
  refine Holds.of_body' (fn:=Tryz.f45) 18 0 [.tmp 2] Tryz.func45 rfl rfl rfl rfl rfl (by simp) ?_
  repeat' (first|(refine Xr X0 ?_;intro K hK)|(refine hK _ ?_;clear hK K)|refine Xz ?_|fail)
  refine W_loopS (fun k:Nat=>(⟨slots [(3,.lit (.int .i64 0)),(6,.tree 1 (ints l)),(7,.lit (.int .i64 l.length)),(8,.lit (.int .i64 k))],[]⟩:St)) (fun k=>k≤l.length∧orL (l.drop k)=res) (fun k=>l.length - k) 0 ⟨Nat.zero_le _,hres⟩ (Xv X0) ?_
  rintro k ⟨hk,hr⟩ Ql hnl hel
  repeat' (first|(refine Xr X0 ?_;intro K hK)|(refine hK _ ?_;clear hK K)|(refine Xi ?_ ?_<;>try intro ht)|refine Xz ?_|refine Xh ?_|(refine Xe ?_;first|refine RetOK_pure' rfl ?_|refine Xl ?_ ?_)|refine Xd ?_ ?_|exact Xx|fail)
  · rw[getD_drop0 _ _ 0 (by omega),orL,if_pos (by assumption)] at hr
    rw[hr]
  · rw[getD_drop0 _ _ 0 (by omega),orL,if_neg (by omega)] at hr
    exact hnl _ (k+1) ⟨by omega,hr⟩ (by omega) (Xv X0)
  · rw[List.drop_eq_nil_of_le (by omega),orL] at hr
    rw[hr]
theorem option_ok (m:Mdl) (c o:Int):Holds Tryz.prog 104 [.agg (eMdl m),.lit (.int .i64 c),.lit (.int .i64 o)] [] (.lit (.bool (optB m c o))) []:=by
  refine Holds.of_body' (fn:=Tryz.f104) 30 0 [.tmp 6] Tryz.func104 rfl rfl rfl rfl rfl (by simp) ?_
  repeat' (first|(refine Xr (X4 @eMdl.eq_1 @rows_length @rows_getD @eCls.eq_1) ?_;intro K hK)|(refine hK _ ?_;clear hK K)|(refine Xg (X4 @eMdl.eq_1 @rows_length @rows_getD @eCls.eq_1) ?_ ?_<;>try intro hb)|refine Xz ?_|(refine Xe ?_;first|refine RetOK_pure' rfl ?_|refine Xl ?_ ?_)|refine Xd ?_ ?_|exact Xx|fail)
  all_goals (refine congrArg (fun b=>AV.lit (Value.bool b)) ?_;rw[Bool.eq_iff_iff];simp only[optB,decide_eq_true_eq,beq_iff_eq,bne_iff_ne,Bool.and_eq_true,Bool.or_eq_true,Bool.not_eq_true',decide_eq_false_iff_not,Bool.false_eq_true,reduceCtorEq,iff_true,iff_false,true_iff,false_iff,eq_self];omega)
theorem refOption_ok (m:Mdl) (c o:Int):Holds Tryz.prog 60 [.agg (eMdl m),.lit (.int .i64 c),.lit (.int .i64 o)] [] (.lit (.bool (optB m c o))) []:=by
  refine Holds.of_body' (fn:=Tryz.f60) 30 0 [.tmp 6] Tryz.func60 rfl rfl rfl rfl rfl (by simp) ?_
  repeat' (first|(refine Xr (X4 @eMdl.eq_1 @rows_length @rows_getD @eCls.eq_1) ?_;intro K hK)|(refine hK _ ?_;clear hK K)|(refine Xg (X4 @eMdl.eq_1 @rows_length @rows_getD @eCls.eq_1) ?_ ?_<;>try intro hb)|refine Xz ?_|(refine Xe ?_;first|refine RetOK_pure' rfl ?_|refine Xl ?_ ?_)|refine Xd ?_ ?_|exact Xx|fail)
  all_goals (refine congrArg (fun b=>AV.lit (Value.bool b)) ?_;rw[Bool.eq_iff_iff];simp only[optB,decide_eq_true_eq,beq_iff_eq,bne_iff_ne,Bool.and_eq_true,Bool.or_eq_true,Bool.not_eq_true',decide_eq_false_iff_not,Bool.false_eq_true,reduceCtorEq,iff_true,iff_false,true_iff,false_iff,eq_self];omega)
theorem times_ok (n c:Int) (h2:n≤1048576) (h4:In41 c):Holds Tryz.prog 94 [.lit (.int .i64 n),.lit (.int .i64 c)] [] (.lit (.int .i64 (timesV n c))) []:=by
  unfold In41 at h4
  have hm:0<n→0≤n * c∧n * c≤1048576 * 1099511627776:=fun h=>⟨Int.mul_nonneg (by omega) h4.1,Int.mul_le_mul (by omega) h4.2 h4.1 (by omega)⟩
  refine Holds.of_body' (fn:=Tryz.f94) 13 0 [.tmp 4] Tryz.func94 rfl rfl rfl rfl rfl (by simp) ?_
  repeat' (first|(refine Xr X0 ?_;intro K hK)|(refine hK _ ?_;clear hK K)|(refine Xi ?_ ?_<;>try intro ht)|refine Xz ?_|(refine Xe ?_;first|refine RetOK_pure' rfl ?_|refine Xl ?_ ?_)|refine Xd ?_ ?_|exact Xx|fail)
  · rw[timesV,if_pos ht]
  · rw[timesV,if_neg (by omega),if_pos (by omega)]
  · rw[timesV,if_neg (by omega),if_neg (by omega)]
end T

