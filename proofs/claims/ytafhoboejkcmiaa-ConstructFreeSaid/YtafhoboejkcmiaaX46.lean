import Derived.Test.YtafhoboejkcmiaaX38
import Derived.Test.YtafhoboejkcmiaaX39
import Derived.Test.YtafhoboejkcmiaaX43
import Derived.Test.YtafhoboejkcmiaaX44
import Derived.Test.YtafhoboejkcmiaaX34
import Derived.Test.YtafhoboejkcmiaaX21
import Derived.Test.YtafhoboejkcmiaaX12
import Derived.Test.YtafhoboejkcmiaaX45
set_option linter.unusedVariables false
set_option linter.unusedSimpArgs false
set_option linter.unnecessarySimpa false
set_option linter.unusedSectionVars false
set_option maxHeartbeats 64000000
set_option maxRecDepth 20000
open Go Go.Am Go.Proofs
open Nat (reduceEqDiff reduceAdd reduceLeDiff reduceMul)
open Int (reduceNeg reduceLE reduceToNat)
namespace T
theorem some26_ok (L:List Int) (k:Nat) (hk:k≤L.length) (hL:L.length<1000000) :
    HoldsR Try.prog 10 [.ptr 0 0 0] [dice L k] (fun r os=>∃ m k',OM m∧k'≤L.length∧r=.agg (eMdl m)∧os=[dice L k']):=by
  have hmod:=model_ok L k 5 4 hk hL (by decide) (by decide) (by decide)
  unfold dice at hmod
  unfold dice
  refine HoldsR.of_body' (fn:=Try.f10) 12 1 [.cell 2 29] Try.func10 rfl rfl rfl rfl rfl (by simp) ?_
  have hend:∀ (env:Nat→AV) (m m2:Mdl) (k':Nat),OM m→k'≤L.length→env 2=.ptr 1 0 0→retR Try.prog 1 [.cell 2 29] (fun r os=>∃ m k',OM m∧k'≤L.length∧r=.agg (eMdl m)∧os=[dice L k']) .ret ⟨env,[dice L k',.var (eMdl m),.var (eMdl m2)]⟩:=by
    intro env m m2 k' hom hk' he2
    unfold retR dice
    simp only[resW,retV,he2]
    simp (disch:=omega) only[Ac,↓Pc,simprocAttr,he2]
    refine⟨_,_,⟨m,k',hom,hk',rfl,rfl⟩,?_⟩
    exact Xw true [0] X0
  repeat' (first|((fail_if_success (first|refine W_at 1 ?_|refine W_atE 1 ?_));refine Xr X0 ?_;intro K hK)|refine Xo X0 ?_|(refine hK _ ?_;clear hK K)|(refine Xg X0 ?_ ?_<;>try intro hb)|(refine Xi ?_ ?_<;>try intro ht)|refine Xy ?_|refine Xd ?_ ?_|exact Xx|fail)
  refine W_region_ce 1 (by decide) _ rfl ?_
  intro K hK
  simp (disch:=omega) only[Ac,↓Pc,simprocAttr,List.take,List.drop]
  refine⟨rfl,(show callKR Try.prog 19 [.ptr 0 0 0,.lit (.int .i64 (5:Nat)),.lit (.int .i64 (4:Nat))] (some 5) _ _ from ?_)⟩
  refine callKR_sel [0] hmod (by decide) ⟨rfl,trivial⟩ ⟨.eq rfl,.pure rfl,.pure rfl,trivial⟩ ?_
  rintro r os ⟨m,k2,hm,hk2,rfl,rfl⟩
  have h1:=one_ok L k2 9 (by unfold In64;omega) (by omega) hk2 hL
  unfold dice at h1
  simp (disch:=omega) only[Ac,↓Pc,simprocAttr]
  refine hK _ ?_;clear hK K
  ((try revert hK K);(repeat' (first|refine Va X0 ?_|(refine V2 X0 ?_ ?_<;>try with_reducible intro hb)|(refine Xi ?_ ?_<;>try intro ht)|refine VD ?_ ?_|exact Xx|fail))<;>try with_reducible intro K hK)
  (refine Xn [0] (h1) ?_;simp (disch:=omega) only[Ac,↓Pc,simprocAttr])
  have hk3:=nextA_le (L:=L) (k:=k2) hk2
  generalize nextA L k2=k3 at *
  repeat' (first|((fail_if_success (first|refine W_at 3 ?_|refine W_atE 3 ?_));(fail_if_success (first|refine W_at 4 ?_|refine W_atE 4 ?_));refine Xr X0 ?_;intro K hK)|refine Xo X0 ?_|(refine hK _ ?_;clear hK K)|(refine Xg X0 ?_ ?_<;>try intro hb)|(refine Xi ?_ ?_<;>try intro ht)|refine Xy ?_|refine Xd ?_ ?_|exact Xx|fail)
  · have hodd:=odd_ok L k3 m hm.vm hk3 hL
    unfold dice at hodd
    refine W_region_ce 2 (by decide) _ rfl ?_
    intro K hK
    simp (disch:=omega) only[Ac,↓Pc,simprocAttr,List.take,List.drop]
    refine⟨rfl,(show callKR Try.prog 26 [.ptr 0 0 0,.agg (eMdl m)] (some 10) _ _ from ?_)⟩
    refine callKR_sel [0] hodd (by decide) ⟨rfl,trivial⟩ ⟨.eq rfl,.pure rfl,trivial⟩ ?_
    rintro r os ⟨m2,k4,hm2,hk4,rfl,rfl⟩
    simp (disch:=omega) only[Ac,↓Pc,simprocAttr]
    refine hK _ ?_;clear hK K
    ((try revert hK K);(repeat' (first|refine Va X0 ?_|(refine V2 X0 ?_ ?_<;>try with_reducible intro hb)|(refine Xi ?_ ?_<;>try intro ht)|refine VD ?_ ?_|exact Xx|fail))<;>try with_reducible intro K hK)
    exact hend _ m2 m k4 hm2 hk4 (by simp only[Kc,simprocAttr])
  · ((try revert hK K);(repeat' (first|refine Va X0 ?_|(refine V2 X0 ?_ ?_<;>try with_reducible intro hb)|(refine Xi ?_ ?_<;>try intro ht)|refine VD ?_ ?_|exact Xx|fail))<;>try with_reducible intro K hK)
    exact hend _ m m k3 hm.vm.om hk3 (by simp only[Kc,simprocAttr])
theorem plF_len {L:List Int} {b:Bool}:∀ (r:List (List Opt)) (k:Nat) (acc:List Int),(planF L b r k acc).1.length=acc.length+r.length
  | [],k,acc=>by simp[planF]
  | l::r,k,acc=>by rw[planF,plF_len r];simp;omega
theorem plF_le {L:List Int} {b:Bool}:∀ (r:List (List Opt)) (k:Nat) (acc:List Int),k≤L.length→(planF L b r k acc).2≤L.length
  | [],k,acc,h=>h
  | l::r,k,acc,h=>by rw[planF];exact plF_le r _ _ (nextA_le h)
theorem satT_len (m:Mdl):(satT m).1.length≤m.cls.length:=by
  unfold satT
  split
  · exact Nat.zero_le _
  · rw[(satV_pm m).len];exact Nat.le_refl _
theorem saturates_law (tape:List Int):Holds Try.prog 3 [.tree 1 (ints tape)] [] (.lit (.bool true)) []:=by
  refine Holds.of_body' (fn:=Try.f3) 36 0 [.tmp 2] Try.func3 rfl rfl rfl rfl rfl (by simp) ?_
  repeat' (first|((fail_if_success (first|refine W_at 3 ?_|refine W_atE 3 ?_));refine Xq X0 ?_;intro K hK)|refine Xo X0 ?_|refine Xc (light_ok _) ?_|refine Xc (awake26_ok) ?_|(refine hK _ ?_;clear hK K)|(refine Xg X0 ?_ ?_<;>try intro hb)|(refine Xi ?_ ?_<;>try intro ht)|refine XY ?_|refine Xd ?_ ?_|exact Xx|fail)
  · exact RetOK_pure' rfl rfl
  have hL:tape.length<1000000:=by omega
  have hsm:=some26_ok tape 0 (Nat.zero_le _) hL
  refine W_region_ce 2 (by decide) _ rfl ?_
  intro K hK
  simp (disch:=omega) only[Ac,↓Pc,simprocAttr,List.take,List.drop]
  (refine Xn [] (roll_ok tape) ?_;simp (disch:=omega) only[Ac,↓Pc,simprocAttr])
  unfold dice at hsm
  refine⟨rfl,(show callKR Try.prog 10 [.ptr 0 0 0] (some 14) _ _ from ?_)⟩
  refine callKR_sel [0] hsm (by decide) ⟨rfl,trivial⟩ ⟨.eq rfl,trivial⟩ ?_
  rintro r os ⟨m,k,hm,hk,rfl,rfl⟩
  simp (disch:=omega) only[Ac,↓Pc,simprocAttr]
  refine hK _ ?_;clear hK K
  repeat (first|refine Xu ?_)
  refine W_turn (Turns.frzP 3 1 (cells:=eMdl m) (by rfl) (by simp only[Kc,simprocAttr]) (by simp[eMdl])) ?_
  refine W_turn (σ':=⟨slots [(3,.taddr (eMdl m))],[]⟩) (Xs false [] X0) ?_
  clear hsm hk k hL
  have h1:=Saturate_ok m hm.mb
  have h2:=rSaturate_ok m hm.mb
  have h3:=same_ok (satT m).1 (satT m).1 (by have:=satT_len m;have:=hm.few;omega)
  rw[decide_eq_true rfl] at h3
  generalize (satT m).1=p at *
  generalize (satT m).2=e at *
  ((try revert hK K);(repeat' (first|refine Vd @beq_self_eq_true.{0} (X4 h1 h2 h3 awake26_ok) ?_|(refine V2 @beq_self_eq_true.{0} ?_ ?_<;>try with_reducible intro hb)|(refine Xi ?_ ?_<;>try intro ht)|refine VD ?_ ?_|exact Xx|fail))<;>try with_reducible intro K hK)
  all_goals try (exfalso;omega)
  all_goals exact RetOK_pure' rfl (by first|rfl|simp)
end T

