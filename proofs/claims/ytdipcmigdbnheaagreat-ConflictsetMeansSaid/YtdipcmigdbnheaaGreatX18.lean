import Derived.Test.YtdipcmigdbnheaaGreatX13
import Derived.Test.YtdipcmigdbnheaaGreatX12
import Derived.Test.YtdipcmigdbnheaaGreatX17
set_option linter.unusedVariables false
set_option linter.unusedSimpArgs false
set_option linter.unnecessarySimpa false
set_option linter.unusedSectionVars false
set_option maxHeartbeats 64000000
set_option maxRecDepth 20000
open Go Go.Am Go.Proofs
open Nat (reduceEqDiff reduceAdd reduceLeDiff reduceMul)
open Int (reduceNeg reduceLE reduceToNat)
namespace T
theorem TB (x:Int):an Tryz.prog 174 [.lit (.int .i64 x)] [] (.agg (bC (gz x))) []:=by
  refine an.aD (fn:=Tryz.f174) 7 0 [.cell 2 230] Tryz.func174 rfl rfl rfl rfl rfl (by simp) ?_
  refine Vb X0 ?_
  simp (disch:=omega) only[Ac,↓Pc,simprocAttr,bC,gz,dQ]
  exact aK rfl rfl
theorem TC (l:List Nm) (gP:l.length<9223372036854775808):an Tryz.prog 177 [.tree 2 (rowsOf bC l)] [] (.agg (bC (qK l))) []:=by
  refine an.aD (fn:=Tryz.f177) 30 0 [.cell 2 230] Tryz.func177 rfl rfl rfl rfl rfl (by simp) ?_
  refine Vb X0 ?_
  refine aU (fun i:Nat=>(⟨aw [(2,.ptr 0 0 0),(3,.ptr 1 0 0),(7,.tree 2 (rowsOf bC l)),(8,.lit (.int .i64 l.length)),(9,.lit (.int .i64 i))],[.var [.lit (.int .i64 0),.lit (.bool false)],.var (bC (qK (l.take i)))]⟩:St)) (fun i=>i≤l.length) (fun i=>l.length - i) 0 (Nat.zero_le _) (Xv @List.take_zero.{0}) ?_
  rintro i hi Ql aq av
  by_cases hi':i<l.length
  · have h1:=iD hi'
    have h3:=ab5 (l.take i) (l.getD i default)
    rw[← h1] at h3
    generalize qK (l.take i)=b at *
    generalize cT:l.getD i default=p at *
    unfold zd at h3
    obtain ⟨b1,b2⟩:=b
    obtain ⟨p1,p2⟩:=p
    dsimp only at h3 ⊢
    unfold bC
    dsimp only
    by_cases bw:p1<b1
    all_goals
      cases p2<;>cases b2
    all_goals
      simp[bw] at h3
      ((repeat' (first|refine Va (X2 @cT @bC.eq_1) ?_|(refine Xi ?_ ?_<;>try intro ht)|exact Xx|fail)))
      all_goals
        refine aq _ (i+1) (by omega) (by omega) ?_
        simp only[h3]
        exact Xs false [0,1] @bC.eq_1
  · ((repeat' (first|refine Va @bC.eq_1 ?_|(refine V2 @bC.eq_1 ?_ ?_<;>try with_reducible intro hb)|(refine Xi ?_ ?_<;>try intro ht)|exact Xx|fail)))
    refine av _ _ rfl ?_;clear aq av Ql
    repeat (refine Xu ?_)
    rw[List.take_of_length_le (by omega)]
    refine Vb @bC.eq_1 ?_
    simp (disch:=omega) only[Ac,↓Pc,simprocAttr,bC,dQ]
    exact aK rfl rfl
end T

