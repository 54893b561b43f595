import Derived.Test.YtibijngmebpmmaaGreatP7
import Derived.Test.YtibijngmebpmmaaGreatPE
import Derived.Test.YtibijngmebpmmaaGreatDA
set_option linter.unusedVariables false
set_option linter.unusedSimpArgs false
set_option linter.unnecessarySimpa false
open Go Go.Am Go.Proofs
open Nat (reduceEqDiff reduceAdd reduceLeDiff reduceMul)
open Int (reduceNeg reduceLE reduceToNat)
set_option maxRecDepth 20000
namespace T
def oA:Opt:=⟨0,0,0,0,0,[]⟩
def mA:Mdl:=⟨[[oA],[oA]],[⟨0,1,0,[1099511627776]⟩],[],1⟩
def mB:Mdl:=⟨[[oA],[oA]],[],[],0⟩
def pA:List Nd:=[⟨-1,[],[],[0,1],[[(0,0),(1,0)]]⟩]
def pB:List Nd:=[⟨-1,[],[],[],[]⟩]
theorem mA_mb:MB mA:=by
  refine⟨by decide,fun l hl=>?_,fun l hl o ho=>?_,by decide,fun p hp=>?_,by decide,fun c hc=>?_⟩
  · simp[mA] at hl;subst hl;decide
  · simp[mA] at hl;subst hl;simp at ho;subst ho;decide
  · simp[mA] at hp;subst hp;decide
  · simp[mA] at hc
theorem mB_mb:MB mB:=by
  refine⟨by decide,fun l hl=>?_,fun l hl o ho=>?_,by decide,fun p hp=>?_,by decide,fun c hc=>?_⟩
  · simp[mB] at hl;subst hl;decide
  · simp[mB] at hl;subst hl;simp at ho;subst ho;decide
  · simp[mB] at hp
  · simp[mB] at hc
theorem pA_pb:PB pA:=by
  refine⟨by decide,fun x hx=>?_,fun x hx=>?_,fun x hx=>?_,fun x hx=>?_,fun x hx l hl=>?_⟩
  all_goals simp[pA] at hx;subst hx
  · decide
  · decide
  · decide
  · decide
  · simp at hl;subst hl;decide
theorem leaf_pb (l:List Mv) (h:l.length<9223372036854775808):PB [⟨-1,[],l,[],[]⟩]:=by
  refine⟨by show (1:Nat)<_;decide,fun x hx=>?_,fun x hx=>?_,fun x hx=>?_,fun x hx=>?_,fun x hx l hl=>?_⟩
  all_goals rw[List.mem_singleton] at hx;subst hx
  · show (0:Nat)<_;decide
  · exact h
  · show (0:Nat)<_;decide
  · show (0:Nat)<_;decide
  · simp at hl
theorem aw21a:chkV mA pA=(1099511627776,true):=by decide +kernel
theorem aw21b:chkV mB pB=(0,true):=by decide +kernel
set_option maxHeartbeats 4000000 in
theorem awake21_ok:Holds Tryz.prog 6 [] [] (.lit (.bool true)) []:=by
  have h1:=check_ok mA pA mA_mb pA_pb
  rw[aw21a] at h1
  have h2:=check_ok mB pB mB_mb (leaf_pb [] (by decide))
  rw[aw21b] at h2
  have h3:=trivial_ok
  refine Holds.of_body' (fn:=Tryz.f6) 50 0 [.tmp 0] Tryz.func6 rfl rfl rfl rfl rfl (by simp) ?_
  repeat' (first|((fail_if_success (first|refine W_at 3 ?_|refine W_atE 3 ?_));refine Xr X0 ?_;intro K hK)|refine Xo X0 ?_|(refine hK _ ?_;clear hK K)|(refine Xg X0 ?_ ?_<;>try intro hb)|(refine Xi ?_ ?_<;>try intro ht)|refine Xz ?_|refine Xh ?_|refine Xe ?_|refine Xd ?_ ?_|omega|with_reducible rfl|exact trivial)
  have ho:∀ (σ:St) (kp:Nat→Prop),RowsR (Frz σ kp) (rowsOf eOpt [oA]) [[.lit (.int .i64 0),.lit (.int .i64 0),.lit (.int .i64 0),.lit (.int .i64 0),.lit (.int .i64 0),.lit (.slice none 0 0)]]:=fun σ kp =>
    ⟨⟨.lit _,.lit _,.lit _,.lit _,.lit _,.nil 2,trivial⟩,trivial⟩
  refine W_region_te 9 (by decide) ?_
  intro K K1 hK hK1
  simp (disch:=omega) only[Ac,↓Pc,simprocAttr,List.take]
  refine hK1 _ ⟨slots [(1,.tree 6 (rowsOf eOpt [oA])),(17,.agg (eMdl mA)),(25,.agg (ePf pA))],[]⟩ ?_ ?_
  · refine Turns.sel [] true _ _ (by decide) trivial (by decide) (by decide) ⟨?_,?_,?_,trivial⟩
    all_goals simp only[Kc,simprocAttr]
    · exact .snap _ _ rfl (Frz.mk rfl rfl (not_kept (by decide)) (rows_wid _) (ho _ _))
    · refine ArgR.agg _ _ rfl (ArgsR.spec (R:=ArgR _ _ _ _) (cs:=eMdl mA) (ds:=[.ref 1 1 0 2,.ref 3 4 0 1,.lit (.slice none 0 0),.lit (.int .i64 1)]) ⟨.snap _ _ rfl ?_,.snap _ _ rfl ?_,.snap _ _ rfl (.nil 4),.pure rfl,trivial⟩).2
      · exact Frz.mk rfl rfl (not_kept (by decide)) (rows_wid _) ⟨⟨Frz.mk rfl rfl (not_kept (by decide)) (rows_wid _) (ho _ _),trivial⟩,⟨Frz.mk rfl rfl (not_kept (by decide)) (rows_wid _) (ho _ _),trivial⟩,trivial⟩
      · exact Frz.mk rfl rfl (not_kept (by decide)) (rows_wid _) ⟨⟨.lit _,.lit _,.lit _,Frz.mk rfl rfl (not_kept (by decide)) (ints_wid _) ⟨⟨.lit _,trivial⟩,trivial⟩,trivial⟩,trivial⟩
    · refine ArgR.agg _ _ rfl (ArgsR.spec (R:=ArgR _ _ _ _) (cs:=ePf pA) (ds:=[.ref 8 5 0 1]) ⟨.snap _ _ rfl ?_,trivial⟩).2
      exact Frz.mk rfl rfl (not_kept (by decide)) (rows_wid _) ⟨⟨.lit _,.nil _,.nil _,Frz.mk rfl rfl (not_kept (by decide)) (ints_wid _) ⟨⟨.lit _,trivial⟩,⟨.lit _,trivial⟩,trivial⟩,
        Frz.mk rfl rfl (not_kept (by decide)) (rows_wid _) ⟨⟨Frz.mk rfl rfl (not_kept (by decide)) (rows_wid _) ⟨⟨.lit _,.lit _,trivial⟩,⟨.lit _,.lit _,trivial⟩,trivial⟩,trivial⟩,trivial⟩,trivial⟩,trivial⟩
  clear hK1 K1
  simp (disch:=omega) only[Ac,↓Pc,simprocAttr,List.drop]
  refine callK_pure h1 rfl rfl ?_
  simp (disch:=omega) only[Ac,↓Pc,simprocAttr]
  refine hK _ ?_
  clear hK K
  repeat (first|refine Xu ?_)
  refine W_turn (σ':=⟨slots [(1,.tree 6 (rowsOf eOpt [oA])),(3,.lit (.int .i64 1099511627776)),(4,.lit (.bool true))],[]⟩) (Xv X0) ?_
  refine W_region_t 5 (by decide) ?_
  intro K K1 hK hK1
  simp (disch:=omega) only[Ac,↓Pc,simprocAttr,List.take]
  refine callK_pure h3 rfl rfl ?_
  simp (disch:=omega) only[Ac,↓Pc,simprocAttr]
  refine hK1 _ ⟨slots [(3,.lit (.int .i64 1099511627776)),(4,.lit (.bool true)),(33,.agg (eMdl mB)),(34,.agg (ePf pB))],[]⟩ ?_ ?_
  · refine Turns.sel [] true _ _ (by decide) trivial (by decide) (by decide) ⟨.pure rfl,.pure rfl,?_,.pure rfl,trivial⟩
    simp only[Kc,simprocAttr]
    refine ArgR.agg _ _ rfl (ArgsR.spec (R:=ArgR _ _ _ _) (cs:=eMdl mB) (ds:=[.ref 0 1 0 2,.lit (.slice none 0 0),.lit (.slice none 0 0),.lit (.int .i64 0)]) ⟨.snap _ _ rfl ?_,.snap _ _ rfl (.nil 4),.snap _ _ rfl (.nil 4),.pure rfl,trivial⟩).2
    exact Frz.mk rfl rfl (not_kept (by decide)) (rows_wid _) ⟨⟨.tree _ _,trivial⟩,⟨.tree _ _,trivial⟩,trivial⟩
  clear hK1 K1
  simp (disch:=omega) only[Ac,↓Pc,simprocAttr,List.drop]
  refine callK_pure h2 rfl rfl ?_
  simp (disch:=omega) only[Ac,↓Pc,simprocAttr]
  refine hK _ ?_;clear hK K
  repeat' (first|(refine Xr @beq_self_eq_true.{0} ?_;intro K hK)|refine Xo @beq_self_eq_true.{0} ?_|(refine hK _ ?_;clear hK K)|(refine Xg @beq_self_eq_true.{0} ?_ ?_<;>try intro hb)|(refine Xi ?_ ?_<;>try intro ht)|refine Xz ?_|refine Xh ?_|refine Xe ?_|refine Xd ?_ ?_|omega|with_reducible rfl|exact trivial)
  exact RetOK_pure' rfl rfl
end T

