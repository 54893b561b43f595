import Derived.Test.YtdipcmigdbnheaaGreatX35
import Derived.Test.YtdipcmigdbnheaaGreatX43
import Derived.Test.YtdipcmigdbnheaaGreatX50
set_option linter.unusedVariables false
set_option linter.unusedSimpArgs false
set_option linter.unnecessarySimpa false
set_option linter.unusedSectionVars false
set_option maxHeartbeats 64000000
set_option maxRecDepth 20000
open List renaming isEmpty_iff→LS
open Go Go.Am
open Go Go.Am Go.Proofs
open Nat (reduceEqDiff reduceAdd reduceLeDiff reduceMul)
open Int (reduceNeg reduceLE reduceToNat)
namespace T
def oW:cB:=⟨0,0,0,0,0,[]⟩
def mW:ae:=⟨[[oW,oW],[oW]],[⟨0,1,0,[1099511627776,4]⟩],[],1⟩
theorem Bx:VM mW:=iu.1 (by decide +kernel)
theorem aip:(dr mW).plan=[1,0]:=by decide +kernel
theorem Zm:(dr mW).aU=4:=by decide +kernel
theorem aiq:kD mW (dr mW).nodes=(4,true):=by
  have:=(QO Bx (.inr (by decide))).2.2.2.1
  rwa [Zm] at this
theorem air:∀ x∈(dr mW).nodes,x.cX=[]∧x.b5=[]:=by
  have h:((dr mW).nodes.all fun x=>x.cX.isEmpty && x.b5.isEmpty)=true:=by decide +kernel
  intro x hx
  have:=List.all_eq_true.1 h x hx
  rw[Bool.and_eq_true,LS,LS] at this
  exact this
theorem ais:(dr mW).whole=true:=(QO Bx (.inr (by decide))).1
theorem E6:ao Tryz.prog 12 [] [] (.lit (.bool true)) []:=by
  have h1:=agT mW Bx ais
  have h2:=ait mW (dr mW).nodes air rfl Bx.mb (ab1 Bx).1
  rw[aiq] at h2
  have h3:=ab6 mW Bx.mb
  rw[show oK mW=2 by decide +kernel] at h3
  have h4:=adZ [1,0] [1,0] (by decide)
  rw[show decide (([1,0]:List Int)=[1,0])=true from rfl] at h4
  have sE:Gy (dr mW)=.agg [.tree 1 (ints [1,0]),.lit (.int .i64 4),.lit (.int .i64 (dr mW).bH),.tree 5 (rowsOf aL (dr mW).nodes)]:=by
    unfold Gy ek
    rw[aip,Zm];rfl
  rw[sE] at h1
  generalize (dr mW).nodes=P at *
  generalize (dr mW).bH=b at *
  clear sE
  refine ao.aD (fn:=Tryz.f12) 53 0 [.tmp 0] Tryz.func12 rfl rfl rfl rfl rfl (by simp) ?_
  repeat' (first|((fail_if_success (first|refine iV 1 ?_|refine iW 1 ?_));refine Xr X0 ?_;intro K hK)|(refine hK _ ?_;clear hK K)|refine XY ?_|fail)
  have nj:∀ (σ:St) (kp:Nat→Prop),iL (cw σ kp) (rowsOf dJ [oW]) [[.lit (.int .i64 0),.lit (.int .i64 0),.lit (.int .i64 0),.lit (.int .i64 0),.lit (.int .i64 0),.lit (.slice none 0 0)]]:=fun σ kp =>
    ⟨⟨.lit _,.lit _,.lit _,.lit _,.lit _,.nil 2,trivial⟩,trivial⟩
  have fF:∀ (σ:St) (kp:Nat→Prop),iL (cw σ kp) (rowsOf dJ [oW,oW]) [[.lit (.int .i64 0),.lit (.int .i64 0),.lit (.int .i64 0),.lit (.int .i64 0),.lit (.int .i64 0),.lit (.slice none 0 0)],[.lit (.int .i64 0),.lit (.int .i64 0),.lit (.int .i64 0),.lit (.int .i64 0),.lit (.int .i64 0),.lit (.slice none 0 0)]]:=fun σ kp =>
    ⟨⟨.lit _,.lit _,.lit _,.lit _,.lit _,.nil 2,trivial⟩,⟨.lit _,.lit _,.lit _,.lit _,.lit _,.nil 2,trivial⟩,trivial⟩
  refine JF 10 (by decide) ?_
  intro K K1 hK xi
  simp (disch:=omega) only[Ac,↓Pc,simprocAttr,List.take]
  refine xi _ ⟨aw [(15,.agg (au mW))],[]⟩ ?_ ?_
  · refine aQ.an [] true _ _ (by decide) trivial (by decide) (by decide) ⟨?_,trivial⟩
    simp only[Kc,simprocAttr]
    refine aO.agg _ _ rfl (iK.spec (R:=aO _ _ _ _) (cs:=au mW) (ds:=[.ref 2 1 0 2,.ref 4 4 0 1,.lit (.slice none 0 0),.lit (.int .i64 1)]) ⟨.snap _ _ rfl ?_,.snap _ _ rfl ?_,.snap _ _ rfl (.nil 4),.pure rfl,trivial⟩).2
    · exact cw.mk rfl rfl (jk (by decide)) (kC _) ⟨⟨cw.mk rfl rfl (jk (by decide)) (kC _) (fF _ _),trivial⟩,⟨cw.mk rfl rfl (jk (by decide)) (kC _) (nj _ _),trivial⟩,trivial⟩
    · exact cw.mk rfl rfl (jk (by decide)) (kC _) ⟨⟨.lit _,.lit _,.lit _,cw.mk rfl rfl (jk (by decide)) (oB _) ⟨⟨.lit _,trivial⟩,⟨.lit _,trivial⟩,trivial⟩,trivial⟩,trivial⟩
  clear xi K1 nj fF
  simp (disch:=omega) only[Ac,↓Pc,simprocAttr,List.drop]
  refine hK _ ?_
  clear hK K
  generalize mW=m at *
  repeat (refine Xu ?_)
  ((refine Vd X0 (X2 h1 h2) ?_)<;>try with_reducible intro K hK)
  (refine Xf [] (h4) ?_;simp (disch:=omega) only[Ac,↓Pc,simprocAttr])
  ((try revert hK K);(refine Vd X0 h3 ?_))
  all_goals exact aE rfl rfl
end T

