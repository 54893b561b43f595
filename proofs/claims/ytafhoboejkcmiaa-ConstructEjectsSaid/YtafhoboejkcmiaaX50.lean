import Derived.Test.YtafhoboejkcmiaaX27
import Derived.Test.YtafhoboejkcmiaaX11
set_option linter.unusedVariables false
set_option linter.unusedSimpArgs false
set_option linter.unnecessarySimpa false
set_option linter.unusedSectionVars false
set_option maxHeartbeats 64000000
set_option maxRecDepth 20000
open Go Go.Am Go.Proofs
open Nat (reduceEqDiff reduceAdd reduceLeDiff reduceMul)
open Int (reduceNeg reduceLE reduceToNat)
namespace T
theorem planG_ok (m:Mdl) (hm1:m.cls.length≤25) (hm2:∀ l∈m.cls,l.length≤25) (L:List Int) (k:Nat) (b:Bool) (hk:k≤L.length) (hL:L.length<1000000) :
    Holds Try.prog 15 [.ptr 0 0 0,.agg (eMdl m),.lit (.bool b)] [dice L k] (.tree 1 (ints (planF L b m.cls k []).1)) [dice L (planF L b m.cls k []).2]:=by
  unfold dice
  generalize hres:planF L b m.cls k []=res
  refine Holds.of_body' (fn:=Try.f15) 39 1 [.tmp 6] Try.func15 rfl rfl rfl rfl rfl (by simp) ?_
  ((try revert hK K);(repeat' (first|refine Vb X0 ?_|(refine V2 X0 ?_ ?_<;>try with_reducible intro hb)|(refine Xi ?_ ?_<;>try intro ht)|refine VD ?_ ?_|exact Xx|fail))<;>try with_reducible intro K hK)
  refine W_loopS (fun z:Nat × Nat × List Int=>(⟨slots [(0,.ptr 0 0 0),(2,.lit (.bool b)),(4,.ptr 1 0 0),(7,.ref 2 1 0 z.2.2.length),(8,.lit (.int .i64 z.1))],[.var [.tree 1 (ints L),.lit (.int .i64 z.2.1)],.var (eMdl m),.arr 1 (ints z.2.2)]⟩:St))
    (fun z=>z.1≤m.cls.length∧z.2.1≤L.length∧z.2.2.length=z.1∧planF L b (m.cls.drop z.1) z.2.1 z.2.2=res) (fun z=>m.cls.length - z.1) (0,k,[]) ⟨Nat.zero_le _,hk,rfl,hres⟩ ?_ ?_
  · refine Turns.trans (Turns.nil 7 1 (by simp only[Kc,simprocAttr]) (by decide)) ?_
    exact Xv X0
  clear hk
  rintro ⟨i,k,plan⟩ ⟨hi,hk,hpl,hr⟩ Ql hnl hel
  dsimp only at hi hk hpl hr ⊢
  by_cases hi':i<m.cls.length
  · have hl24:=hm2 _ (getD_mem (d:=(default:List Opt)) hi')
    have hd:=getD_drop0 m.cls i default hi'
    generalize hll:m.cls.getD i default=l at *
    rw[hd,planF] at hr
    have hnv:=nextV_range (L:=L) (k:=k) (n:=l.length+1) (by omega)
    have hk2:=nextA_le hk
    ((try revert hK K);(repeat' (first|refine Va @hll ?_|(refine V2 @hll ?_ ?_<;>try with_reducible intro hb)|(refine Xi ?_ ?_<;>try intro ht)|refine VD ?_ ?_|exact Xx|fail))<;>try with_reducible intro K hK)
    · rw[if_pos ht] at hr
      refine callK_sel [0] (next_ok L k l.length (by unfold In64;omega) hk hL) (by decide) ⟨rfl,trivial⟩ ⟨.eq rfl,.pure rfl,trivial⟩ ?_
      generalize nextV L k l.length=n at *
      generalize nextA L k=k2 at *
      ((try revert hK K);(repeat' (first|refine Va @hll ?_|(refine V2 @hll ?_ ?_<;>try with_reducible intro hb)|(refine Xi ?_ ?_<;>try intro ht)|refine VD ?_ ?_|exact Xx|fail))<;>try with_reducible intro K hK)
      refine hnl _ (i+1,k2,plan++[n]) ⟨by dsimp only;omega,hk2,by simp;omega,hr⟩ (by dsimp only;omega) ?_
      exact Xs false [0,1,4] X0
    · rw[if_neg (by simp[ht])] at hr
      refine callK_sel [0] (next_ok L k (l.length+1) (by unfold In64;omega) hk hL) (by decide) ⟨rfl,trivial⟩ ⟨.eq rfl,.pure rfl,trivial⟩ ?_
      generalize nextV L k (l.length+1)=n at *
      generalize nextA L k=k2 at *
      ((try revert hK K);(repeat' (first|refine Va @hll ?_|(refine V2 @hll ?_ ?_<;>try with_reducible intro hb)|(refine Xi ?_ ?_<;>try intro ht)|refine VD ?_ ?_|exact Xx|fail))<;>try with_reducible intro K hK)
      refine hnl _ (i+1,k2,plan++[n - 1]) ⟨by dsimp only;omega,hk2,by simp;omega,hr⟩ (by dsimp only;omega) ?_
      exact Xs false [0,1,4] X0
  · ((try revert hK K);(repeat' (first|refine Va X0 ?_|(refine V2 X0 ?_ ?_<;>try with_reducible intro hb)|(refine Xi ?_ ?_<;>try intro ht)|refine VD ?_ ?_|exact Xx|fail))<;>try with_reducible intro K hK)
    rw[List.drop_eq_nil_of_le (by omega),planF] at hr
    subst hr
    refine hel _ _ rfl ?_;clear hnl hel Ql
    repeat (first|refine Xu ?_)
    ((try revert hK K);(repeat' (first|refine Vb X0 ?_|(refine V2 X0 ?_ ?_<;>try with_reducible intro hb)|(refine Xi ?_ ?_<;>try intro ht)|refine VD ?_ ?_|exact Xx|fail))<;>try with_reducible intro K hK)
    exact Xw true [0] X0
end T

