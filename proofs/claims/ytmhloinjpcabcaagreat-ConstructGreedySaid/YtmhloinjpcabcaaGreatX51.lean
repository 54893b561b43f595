import Derived.Test.YtmhloinjpcabcaaGreatX45
import Derived.Test.YtmhloinjpcabcaaGreatX44
import Derived.Test.YtmhloinjpcabcaaGreatX47
set_option linter.unusedVariables false
set_option linter.unusedSimpArgs false
set_option linter.unnecessarySimpa false
set_option linter.unusedSectionVars false
set_option maxHeartbeats 64000000
set_option maxRecDepth 20000
open Go Go.Am Go.Proofs
open Nat (reduceEqDiff reduceAdd reduceLeDiff reduceMul)
open Int (reduceNeg reduceLE reduceToNat)
namespace T
def oV:Opt:=⟨0,0,0,0,0,[]⟩
def mV6:Mdl:=⟨[[oV],[oV]],[⟨0,1,0,[1099511627776]⟩],[],1⟩
theorem mV6_vm:VM mV6:=valid_iff.1 (by decide +kernel)
theorem mV6_sat:satT mV6=([0,-1],0):=by decide +kernel
theorem mV6_ej:ejT mV6 [0,-1] 1 0=([-1,0],[0],0):=by decide +kernel
theorem awake26_ok:Holds Tryz.prog 8 [] [] (.lit (.bool true)) []:=by
  have h1:=Saturate_ok mV6 mV6_vm.mb
  rw[mV6_sat] at h1
  have h2:=Eject_ok mV6 [0,-1] 1 0 mV6_vm.mb (by decide)
  rw[mV6_ej] at h2
  have h3:=same_ok [0,-1] [0,-1] (by decide)
  have h4:=same_ok [-1,0] [-1,0] (by decide)
  have h5:=same_ok [0] [0] (by decide)
  rw[show decide (([0,-1]:List Int)=[0,-1])=true from rfl] at h3
  rw[show decide (([-1,0]:List Int)=[-1,0])=true from rfl] at h4
  rw[show decide (([0]:List Int)=[0])=true from rfl] at h5
  dsimp only at h1 h2
  refine Holds.of_body' (fn:=Tryz.f8) 49 0 [.tmp 0] Tryz.func8 rfl rfl rfl rfl rfl (by simp) ?_
  repeat' (first|((fail_if_success (first|refine W_at 1 ?_|refine W_atE 1 ?_));refine Xr X0 ?_;intro K hK)|refine Xo X0 ?_|(refine hK _ ?_;clear hK K)|(refine Xg X0 ?_ ?_<;>try intro hb)|(refine Xi ?_ ?_<;>try intro ht)|refine XY ?_|refine Xd ?_ ?_|exact Xx|fail)
  have hr1:∀ (σ:St) (kp:Nat→Prop),RowsR (Frz σ kp) (rowsOf eOpt [oV]) [[.lit (.int .i64 0),.lit (.int .i64 0),.lit (.int .i64 0),.lit (.int .i64 0),.lit (.int .i64 0),.lit (.slice none 0 0)]]:=fun σ kp =>
    ⟨⟨.lit _,.lit _,.lit _,.lit _,.lit _,.nil 2,trivial⟩,trivial⟩
  refine W_region_te 9 (by decide) ?_
  intro K K1 hK hK1
  simp (disch:=omega) only[Ac,↓Pc,simprocAttr,List.take]
  refine hK1 _ ⟨slots [(15,.agg (eMdl mV6))],[]⟩ ?_ ?_
  · refine Turns.sel [] true _ _ (by decide) trivial (by decide) (by decide) ⟨?_,trivial⟩
    simp only[Kc,simprocAttr]
    refine ArgR.agg _ _ rfl (ArgsR.spec (R:=ArgR _ _ _ _) (cs:=eMdl mV6) (ds:=[.ref 2 1 0 2,.ref 4 4 0 1,.lit (.slice none 0 0),.lit (.int .i64 1)]) ⟨.snap _ _ rfl ?_,.snap _ _ rfl ?_,.snap _ _ rfl (.nil 4),.pure rfl,trivial⟩).2
    · exact Frz.mk rfl rfl (not_kept (by decide)) (rows_wid _) ⟨⟨Frz.mk rfl rfl (not_kept (by decide)) (rows_wid _) (hr1 _ _),trivial⟩,⟨Frz.mk rfl rfl (not_kept (by decide)) (rows_wid _) (hr1 _ _),trivial⟩,trivial⟩
    · exact Frz.mk rfl rfl (not_kept (by decide)) (rows_wid _) ⟨⟨.lit _,.lit _,.lit _,Frz.mk rfl rfl (not_kept (by decide)) (ints_wid _) ⟨⟨.lit _,trivial⟩,trivial⟩,trivial⟩,trivial⟩
  clear hK1 K1 hr1
  simp (disch:=omega) only[Ac,↓Pc,simprocAttr,List.drop]
  refine hK _ ?_
  clear hK K
  generalize mV6=m at *
  repeat (first|refine Xu ?_)
  repeat' (first|((fail_if_success (first|refine W_at 3 ?_|refine W_atE 3 ?_));refine Xq X0 ?_;intro K hK)|refine Xo X0 ?_|refine Xc (h1) ?_|(refine hK _ ?_;clear hK K)|(refine Xg X0 ?_ ?_<;>try intro hb)|(refine Xi ?_ ?_<;>try intro ht)|refine XY ?_|refine Xd ?_ ?_|exact Xx|fail)
  refine W_region_te 2 (by decide) ?_
  intro K K1 hK hK1
  simp (disch:=omega) only[Ac,↓Pc,simprocAttr,List.take]
  refine hK1 _ ⟨slots [(2,.tree 1 (ints [0,-1])),(3,.lit (.int .i64 0)),(22,.agg (eMdl m)),(23,.tree 1 (ints [0,-1]))],[]⟩ ?_ ?_
  · refine Turns.sel [] true _ _ (by decide) trivial (by decide) (by decide) ⟨?_,?_,?_,?_,trivial⟩
    · simp only[Kc,simprocAttr]
      exact .pure rfl
    · simp only[Kc,simprocAttr]
      exact .pure rfl
    · simp only[Kc,simprocAttr]
      exact .pure rfl
    · simp only[Kc,simprocAttr]
      exact ArgR.frz rfl (ints_wid _) rfl (not_kept (by decide)) (ints_frz _)
  clear hK1 K1
  simp (disch:=omega) only[Ac,↓Pc,simprocAttr,List.drop]
  refine callK_pure h2 rfl rfl ?_
  simp (disch:=omega) only[Ac,↓Pc,simprocAttr]
  refine hK _ ?_
  clear hK K
  repeat (first|refine Xu ?_)
  ((try revert hK K);(repeat' (first|refine Vb X0 ?_|(refine V2 X0 ?_ ?_<;>try with_reducible intro hb)|(refine Xi ?_ ?_<;>try intro ht)|refine VD ?_ ?_|exact Xx|fail))<;>try with_reducible intro K hK)
  (refine Xf [] (h3) ?_;simp (disch:=omega) only[Ac,↓Pc,simprocAttr])
  ((try revert hK K);(repeat' (first|refine Vb X0 ?_|(refine V2 X0 ?_ ?_<;>try with_reducible intro hb)|(refine Xi ?_ ?_<;>try intro ht)|refine VD ?_ ?_|exact Xx|fail))<;>try with_reducible intro K hK)
  (refine Xf [] (h4) ?_;simp (disch:=omega) only[Ac,↓Pc,simprocAttr])
  ((try revert hK K);(repeat' (first|refine Vb X0 ?_|(refine V2 X0 ?_ ?_<;>try with_reducible intro hb)|(refine Xi ?_ ?_<;>try intro ht)|refine VD ?_ ?_|exact Xx|fail))<;>try with_reducible intro K hK)
  (refine Xf [] (h5) ?_;simp (disch:=omega) only[Ac,↓Pc,simprocAttr])
  ((try revert hK K);(repeat' (first|refine Vb X0 ?_|(refine V2 X0 ?_ ?_<;>try with_reducible intro hb)|(refine Xi ?_ ?_<;>try intro ht)|refine VD ?_ ?_|exact Xx|fail))<;>try with_reducible intro K hK)
  all_goals exact RetOK_pure' rfl rfl
end T

