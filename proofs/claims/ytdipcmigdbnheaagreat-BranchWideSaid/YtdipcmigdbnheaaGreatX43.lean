import Derived.Test.YtdipcmigdbnheaaGreatX38
import Derived.Test.YtdipcmigdbnheaaGreatX36
import Derived.Test.YtdipcmigdbnheaaGreatX19
import Derived.Test.YtdipcmigdbnheaaGreatX41
import Derived.Test.YtdipcmigdbnheaaGreatX42
import Derived.Test.YtdipcmigdbnheaaGreatX35
set_option linter.unusedVariables false
set_option linter.unusedSimpArgs false
set_option linter.unnecessarySimpa false
set_option linter.unusedSectionVars false
set_option maxHeartbeats 64000000
set_option maxRecDepth 20000
open Go Go.Am Go.Proofs
open Nat (reduceEqDiff reduceAdd reduceLeDiff reduceMul)
open Int (reduceNeg reduceLE reduceToNat)
namespace T
def Gy (s:DS):AV:=.agg [ek (.lit (.slice none 0 0)) 1099511627776 s,.lit (.int .i64 s.aU),.lit (.int .i64 s.bH),.tree 5 (rowsOf aL s.nodes)]
def Aq:AV:=.agg [.lit (.slice none 0 0),.lit (.int .i64 0),.lit (.int .i64 0),.lit (.slice none 0 0)]
theorem agT (m:ae) (hm:VM m) (hw:(dr m).whole=true):ao Tryz.prog 39 [.agg (au m)] [] (.bM [Gy (dr m),.lit (.int .i64 0)]) []:=by
  have h1:=sI m hm.mb
  rw[iu.2 hm] at h1
  have hg:=Qq m hm 20000 (by decide) [] 1099511627776 (.lit (.slice none 0 0)) rfl rfl 0
  rw[show wL m 20000 [] 1099511627776=dr m from rfl,hw] at hg
  unfold Gy
  generalize dr m=s at *
  have jK:cm (ek (.lit (.slice none 0 0)) 1099511627776 s)=true:=by unfold ek;split<;>rfl
  have wM:=IH (pv:=.lit (.slice none 0 0)) (t0:=1099511627776) (s:=s) rfl
  have jr:∀ ρ,aX ρ (ek (.lit (.slice none 0 0)) 1099511627776 s)=ek (.lit (.slice none 0 0)) 1099511627776 s:=fun ρ=>by unfold ek;split<;>rfl
  generalize ek (.lit (.slice none 0 0)) 1099511627776 s=pa at *
  refine ao.aD (fn:=Tryz.f39) 23 0 [.cell 2 41,.tmp 3] Tryz.func39 rfl rfl rfl rfl rfl (by simp) ?_
  ((repeat' (first|refine Vd (X2 @jK @bne_self_eq_false.{0}) h1 ?_|(refine Xi ?_ ?_<;>try intro ht)|exact Xx|fail))<;>try with_reducible intro K hK)
  (refine Xn [] (hg) ?_;simp (disch:=omega) only[Ac,↓Pc,simprocAttr,jr])
  ((try revert hK K);(repeat' (first|refine Vb (X3 @jK @jr @Bool.not_true) ?_|(refine Xi ?_ ?_<;>try intro ht)|exact Xx|fail)))
  all_goals try (exfalso;simp_all;done)
  all_goals
    simp (disch:=omega) only[Ac,↓Pc,simprocAttr,rowOf]
    exact aE (by simp[gy,jl,wM]) rfl
end T

