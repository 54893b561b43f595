import Derived.Test.YtdipcmigdbnheaaGreatX48
import Derived.Test.YtdipcmigdbnheaaGreatX32
import Derived.Test.YtdipcmigdbnheaaGreatX51
import Derived.Test.YtdipcmigdbnheaaGreatX11
import Derived.Test.YtdipcmigdbnheaaGreatX30
set_option linter.unusedVariables false
set_option linter.unusedSimpArgs false
set_option linter.unnecessarySimpa false
set_option linter.unusedSectionVars false
set_option maxHeartbeats 64000000
set_option maxRecDepth 20000
open Go Go.Am Go.Proofs
open Nat (reduceEqDiff reduceAdd reduceLeDiff reduceMul)
open Int (reduceNeg reduceLE reduceToNat)
namespace T
theorem ajz {n:Int} (h:(Lit.int .u8 n).wf=true):0≤n∧n≤255:=by
  simp[Lit.wf,IntKind.min,IntKind.max,IntKind.signed,IntKind.bits] at h
  omega
theorem ajA (tape:List Int) (mH:Int) (he:0≤mH∧mH≤255):ao Tryz.prog 5 [.tree 1 (ints tape),.lit (.int .u8 mH)] [] (.lit (.bool true)) []:=by
  refine ao.aD (fn:=Tryz.f5) 33 0 [.tmp 4] Tryz.func5 rfl rfl rfl rfl rfl (by simp) ?_
  repeat' (first|((fail_if_success (first|refine iV 3 ?_|refine iW 3 ?_));refine Xq X0 ?_;intro K hK)|refine Xo X0 ?_|refine Xc (P5 _) ?_|refine Xc (E6) ?_|(refine hK _ ?_;clear hK K)|(refine Xi ?_ ?_<;>try intro ht)|refine XY ?_|fail)
  all_goals try (exact aE rfl rfl)
  have hL:tape.length<1000000:=by omega
  have qY:=KR tape 0 9 6 (Nat.zero_le _) hL (by decide) (by decide) (by decide)
  refine wI 2 (by decide) _ rfl ?_
  intro K hK
  simp (disch:=omega) only[Ac,↓Pc,simprocAttr,List.take,List.drop]
  (refine Xn [] (P6 tape) ?_;simp (disch:=omega) only[Ac,↓Pc,simprocAttr])
  unfold jq at qY
  refine⟨rfl,(show pB Tryz.prog 26 [.ptr 0 0 0,.lit (.int .i64 (9:Nat)),.lit (.int .i64 (6:Nat))] (some 14) _ _ from ?_)⟩
  refine Aj [0] qY (by decide) ⟨rfl,trivial⟩ ⟨.eq rfl,.pure rfl,.pure rfl,trivial⟩ ?_
  rintro r os ⟨m,k,rI,hk,rfl,rfl⟩
  simp (disch:=omega) only[Ac,↓Pc,simprocAttr]
  refine hK _ ?_;clear hK K
  repeat (refine Xu ?_)
  have hm:=rI.vm
  refine dO (aQ.Ap 5 1 (cells:=au m) (by rfl) (by simp only[Kc,simprocAttr]) (by simp[au])) ?_
  refine dO (σ':=⟨aw [(1,.lit (.int .u8 mH)),(5,.dz (au m))],[]⟩) (Xs false [] X0) ?_
  clear qY hk k hL rI
  ((repeat' (first|refine Va @au.eq_1 ?_|refine VD ?_ ?_|fail))<;>try with_reducible intro K hK)
  all_goals try rfl
  have hwr:IntKind.i64.wrap (mH.tmod 40)=mH.tmod 40:=by
    have:=Int.tmod_lt_of_pos mH (show (0:Int)<40 by omega)
    have:=Int.tmod_nonneg 40 he.1
    exact VF ⟨by omega,by omega⟩
  have fl:=Int.tmod_lt_of_pos mH (show (0:Int)<40 by omega)
  have bG:=Int.tmod_nonneg 40 he.1
  rw[hwr]
  generalize mH.tmod 40=kk at *
  obtain ⟨pa,aU,bH,P,hs,h3⟩:=P8 m kk hm (by omega)
  have h4:=P9 m hm hs
  have jr:∀ ρ,aX ρ pa=pa:=fun ρ=>by
    rcases hs.pa with ⟨rfl,_⟩ | ⟨q,rfl,_⟩<;>rfl
  have jK:cm pa=true:=by
    rcases hs.pa with ⟨rfl,_⟩ | ⟨q,rfl,_⟩<;>rfl
  clear hs
  (refine Xn [] (h3) ?_;simp (disch:=omega) only[Ac,↓Pc,simprocAttr,jr])
  ((try revert hK K);(refine Va (X3 @jK @jr @beq_self_eq_true.{0}) ?_)<;>try with_reducible intro K hK)
  refine ig [] h4 (by decide) trivial ⟨.pure rfl,.eq (by simp[aX,m6,jr]),trivial⟩ ?_
  simp (disch:=omega) only[Ac,↓Pc,simprocAttr,jr]
  ((try revert hK K);(refine Vd (X3 @jK @jr @beq_self_eq_true.{0}) E6 ?_))
  all_goals exact aE rfl (by first|rfl|simp)
end T

