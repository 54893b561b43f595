import Derived.Test.YtmhloinjpcabcaaGreatX11
import Derived.Test.YtmhloinjpcabcaaGreatX13
import Derived.Test.YtmhloinjpcabcaaGreatX19
import Derived.Test.YtmhloinjpcabcaaGreatX47
import Derived.Test.YtmhloinjpcabcaaGreatX45
import Derived.Test.YtmhloinjpcabcaaGreatX49
import Derived.Test.YtmhloinjpcabcaaGreatX35
import Derived.Test.YtmhloinjpcabcaaGreatX12
set_option linter.unusedVariables false
set_option linter.unusedSimpArgs false
set_option linter.unnecessarySimpa false
set_option linter.unusedSectionVars false
set_option maxHeartbeats 64000000
set_option maxRecDepth 20000
open Go Go.Am Go.Proofs Go.ChangeShapes Go.WideShapes Go.ChangeAt Go.RowKit
open Go Go.Am Go.Proofs
open Nat (reduceEqDiff reduceAdd reduceLeDiff reduceMul)
open Int (reduceNeg reduceLE reduceToNat)
namespace T
variable {H:Type} {enc:TypeId × Value→H} {W:World} {sp:Nat→Bool} {base:Nat}
end T
namespace T
theorem some26q_ok (L:List Int) (k:Nat) (hk:k≤L.length) (hL:L.length<1000000) :
    HoldsR Tryz.prog 9 [.ptr 0 0 0] [dice L k] (fun r os=>∃ m k',OMq 6 m∧k'≤L.length∧r=.agg (eMdl m)∧os=[dice L k']):=by
  have hmod:=model_ok L k 5 4 hk hL (by decide) (by decide) (by decide)
  unfold dice at hmod
  unfold dice
  refine HoldsR.of_body' (fn:=Tryz.f9) 12 1 [.cell 2 29] Tryz.func9 rfl rfl rfl rfl rfl (by simp) ?_
  have hend:∀ (env:Nat→AV) (m m2:Mdl) (k':Nat),OMq 6 m→k'≤L.length→env 2=.ptr 1 0 0→retR Tryz.prog 1 [.cell 2 29] (fun r os=>∃ m k',OMq 6 m∧k'≤L.length∧r=.agg (eMdl m)∧os=[dice L k']) .ret ⟨env,[dice L k',.var (eMdl m),.var (eMdl m2)]⟩:=by
    intro env m m2 k' hom hk' he2
    unfold retR dice
    simp only[resW,retV,he2]
    simp (disch:=omega) only[Ac,↓Pc,simprocAttr,he2]
    refine⟨_,_,⟨m,k',hom,hk',rfl,rfl⟩,?_⟩
    exact Xw true [0] X0
  repeat' (first|((fail_if_success (first|refine W_at 1 ?_|refine W_atE 1 ?_));refine Xr X0 ?_;intro K hK)|refine Xo X0 ?_|(refine hK _ ?_;clear hK K)|(refine Xg X0 ?_ ?_<;>try intro hb)|(refine Xi ?_ ?_<;>try intro ht)|refine Xy ?_|refine Xd ?_ ?_|exact Xx|fail)
  refine W_region_ce 1 (by decide) _ rfl ?_
  intro K hK
  simp (disch:=omega) only[Ac,↓Pc,simprocAttr,List.take,List.drop]
  refine⟨rfl,(show callKR Tryz.prog 22 [.ptr 0 0 0,.lit (.int .i64 (5:Nat)),.lit (.int .i64 (4:Nat))] (some 5) _ _ from ?_)⟩
  refine callKR_sel [0] hmod (by decide) ⟨rfl,trivial⟩ ⟨.eq rfl,.pure rfl,.pure rfl,trivial⟩ ?_
  rintro r os ⟨m,k2,hm,hk2,rfl,rfl⟩
  have h1:=one_ok L k2 9 (by unfold In64;omega) (by omega) hk2 hL
  unfold dice at h1
  simp (disch:=omega) only[Ac,↓Pc,simprocAttr]
  refine hK _ ?_;clear hK K
  ((try revert hK K);(repeat' (first|refine Va X0 ?_|(refine V2 X0 ?_ ?_<;>try with_reducible intro hb)|(refine Xi ?_ ?_<;>try intro ht)|refine VD ?_ ?_|exact Xx|fail))<;>try with_reducible intro K hK)
  (refine Xn [0] (h1) ?_;simp (disch:=omega) only[Ac,↓Pc,simprocAttr])
  have hk3:=nextA_le (L:=L) (k:=k2) hk2
  generalize nextA L k2=k3 at *
  repeat' (first|((fail_if_success (first|refine W_at 3 ?_|refine W_atE 3 ?_));(fail_if_success (first|refine W_at 4 ?_|refine W_atE 4 ?_));refine Xr X0 ?_;intro K hK)|refine Xo X0 ?_|(refine hK _ ?_;clear hK K)|(refine Xg X0 ?_ ?_<;>try intro hb)|(refine Xi ?_ ?_<;>try intro ht)|refine Xy ?_|refine Xd ?_ ?_|exact Xx|fail)
  · have hodd:=odd_okq 5 (by decide) L k3 m hm.vm hm.few hk3 hL
    unfold dice at hodd
    refine W_region_ce 2 (by decide) _ rfl ?_
    intro K hK
    simp (disch:=omega) only[Ac,↓Pc,simprocAttr,List.take,List.drop]
    refine⟨rfl,(show callKR Tryz.prog 28 [.ptr 0 0 0,.agg (eMdl m)] (some 10) _ _ from ?_)⟩
    refine callKR_sel [0] hodd (by decide) ⟨rfl,trivial⟩ ⟨.eq rfl,.pure rfl,trivial⟩ ?_
    rintro r os ⟨m2,k4,hm2,hk4,rfl,rfl⟩
    simp (disch:=omega) only[Ac,↓Pc,simprocAttr]
    refine hK _ ?_;clear hK K
    ((try revert hK K);(repeat' (first|refine Va X0 ?_|(refine V2 X0 ?_ ?_<;>try with_reducible intro hb)|(refine Xi ?_ ?_<;>try intro ht)|refine VD ?_ ?_|exact Xx|fail))<;>try with_reducible intro K hK)
    exact hend _ m2 m k4 hm2 hk4 (by simp only[Kc,simprocAttr])
  · ((try revert hK K);(repeat' (first|refine Va X0 ?_|(refine V2 X0 ?_ ?_<;>try with_reducible intro hb)|(refine Xi ?_ ?_<;>try intro ht)|refine VD ?_ ?_|exact Xx|fail))<;>try with_reducible intro K hK)
    exact hend _ m m k3 (hm.vm.omq (Nat.le_trans hm.few (by decide))) hk3 (by simp only[Kc,simprocAttr])
end T

