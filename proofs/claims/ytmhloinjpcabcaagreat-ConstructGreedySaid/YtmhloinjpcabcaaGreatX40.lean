import Derived.Test.YtmhloinjpcabcaaGreatX19
import Derived.Test.YtmhloinjpcabcaaGreatX35
import Derived.Test.YtmhloinjpcabcaaGreatX23
import Derived.Test.YtmhloinjpcabcaaGreatX36
set_option linter.unusedVariables false
set_option linter.unusedSimpArgs false
set_option linter.unnecessarySimpa false
set_option linter.unusedSectionVars false
set_option maxHeartbeats 64000000
set_option maxRecDepth 20000
open Go Go.Am Go.Proofs
open Nat (reduceEqDiff reduceAdd reduceLeDiff reduceMul)
open Int (reduceNeg reduceLE reduceToNat)
namespace T
theorem clone_ok (xs:List Int) (h:0<xs.length) (hl:xs.length<549755813888):Holds Tryz.prog 31 [.tree 1 (ints xs)] [] (.ref 0 1 0 xs.length) [.arr 1 (ints xs)]:=by
  refine Holds.of_body' (fn:=Tryz.f31) 8 0 [.tmp 2] Tryz.func31 rfl rfl rfl rfl rfl (by simp) ?_
  ((repeat' (first|refine Vb @ints_scal ?_|(refine Xi ?_ ?_<;>try intro ht)|exact Xx|fail)))
  exact Xw false [1] X0
def changeT (m:Mdl) (plan:List Int) (c o:Int):Int × Int :=
  if validV m≠0 then (0,validV m) else if plannedV m plan=false then (0,17) else
    if c<0∨(plan.length:Int)≤c∨o < -1∨((m.cls.getD c.toNat default).length:Int)≤o then (0,3) else ((costsV m (plan.set c.toNat o)).1,0)
theorem refChange_ok (m:Mdl) (plan:List Int) (c o:Int) (hb:MB m) (hpl:plan.length<9223372036854775808):Holds Tryz.prog 26 [.agg (eMdl m),.tree 1 (ints plan),.lit (.int .i64 c),.lit (.int .i64 o)] [] (.tup [.lit (.int .i64 (changeT m plan c o).1),.lit (.int .i64 (changeT m plan c o).2)]) []:=by
  generalize hres:changeT m plan c o=res
  unfold changeT at hres
  have hcost:=refCost_ok m plan hb hpl
  by_cases hv:validV m=0
  rotate_left
  · rw[if_pos hv] at hres
    rw[costT,if_pos hv] at hcost
    dsimp only at hcost
    subst hres
    refine Holds.of_body' (fn:=Tryz.f26) 61 0 [.tmp 8,.tmp 9] Tryz.func26 rfl rfl rfl rfl rfl (by simp) ?_
    ((try revert hK K);(repeat' (first|refine Vd X0 hcost ?_|(refine V2 X0 ?_ ?_<;>try with_reducible intro hb)|(refine Xi ?_ ?_<;>try intro ht)|refine VD ?_ ?_|exact Xx|fail))<;>try with_reducible intro K hK)
    all_goals first|exact RetOK_pure' rfl rfl|(exfalso;omega)
  rw[if_neg (by omega)] at hres
  rw[costT,if_neg (by omega)] at hcost
  have hvm:=valid_iff.1 hv
  by_cases hpn:plannedV m plan=true
  rotate_left
  · rw[if_pos (by simpa using hpn)] at hres
    rw[if_pos (by simpa using hpn)] at hcost
    dsimp only at hcost
    subst hres
    refine Holds.of_body' (fn:=Tryz.f26) 61 0 [.tmp 8,.tmp 9] Tryz.func26 rfl rfl rfl rfl rfl (by simp) ?_
    ((try revert hK K);(repeat' (first|refine Vd X0 hcost ?_|(refine V2 X0 ?_ ?_<;>try with_reducible intro hb)|(refine Xi ?_ ?_<;>try intro ht)|refine VD ?_ ?_|exact Xx|fail))<;>try with_reducible intro K hK)
    all_goals first|exact RetOK_pure' rfl rfl|(exfalso;omega)
  rw[if_neg (by simp[hpn])] at hres
  rw[if_neg (by simp[hpn])] at hcost
  dsimp only at hcost
  have hp:=planned_pm hpn
  have hlen:=hp.len
  have h24:=hvm.cls
  have hop:=refOption_ok m c o
  by_cases hr:c<0∨(plan.length:Int)≤c∨o < -1∨((m.cls.getD c.toNat default).length:Int)≤o
  · rw[if_pos hr] at hres
    subst hres
    by_cases hr2:c<0∨(m.cls.length:Int)≤c
    · refine Holds.of_body' (fn:=Tryz.f26) 61 0 [.tmp 8,.tmp 9] Tryz.func26 rfl rfl rfl rfl rfl (by simp) ?_
      ((try revert hK K);(repeat' (first|refine Vd @bne_self_eq_false.{0} hcost ?_|(refine V2 @bne_self_eq_false.{0} ?_ ?_<;>try with_reducible intro hb)|(refine Xi ?_ ?_<;>try intro ht)|refine VD ?_ ?_|exact Xx|fail))<;>try with_reducible intro K hK)
      all_goals first|exact RetOK_pure' rfl rfl|(exfalso;omega)
    · rw[show optB m c o=false by rw[optB,decide_eq_false_iff_not];omega] at hop
      have hl24:=hvm.opt _ (getD_mem (l:=m.cls) (i:=c.toNat) (d:=default) (by omega))
      refine Holds.of_body' (fn:=Tryz.f26) 61 0 [.tmp 8,.tmp 9] Tryz.func26 rfl rfl rfl rfl rfl (by simp) ?_
      ((try revert hK K);(repeat' (first|refine Vd @bne_self_eq_false.{0} (X2 hcost hop) ?_|(refine V2 @bne_self_eq_false.{0} ?_ ?_<;>try with_reducible intro hb)|(refine Xi ?_ ?_<;>try intro ht)|refine VD ?_ ?_|exact Xx|fail))<;>try with_reducible intro K hK)
      all_goals first|exact RetOK_pure' rfl rfl|(exfalso;omega)
  · rw[if_neg hr] at hres
    have hset:o = -1∨optB m (c.toNat:Nat) o=true:=by
      by_cases h:o = -1
      · exact .inl h
      · right;rw[optB_iff,Int.toNat_natCast];omega
    have hp2:PM m (plan.set c.toNat o):=hp.set hset
    have hc2:=refCost_ok m (plan.set c.toNat o) hb (by simpa using hpl)
    have hpl2:plannedV m (plan.set c.toNat o)=true:=by
      rw[plannedV,if_neg (by rw[hp2.len];simp)]
      have:∀ (pl:List Int) (i:Nat),(∀ j,j<pl.length→pl.getD j 0 = -1∨optB m ((i+j:Nat):Int) (pl.getD j 0)=true)→planL m i pl=true:=by
        intro pl
        induction pl with
        | nil=>intro i _;rfl
        | cons x r ih =>
          intro i h
          rw[planL,Bool.and_eq_true,Bool.or_eq_true,decide_eq_true_eq]
          refine⟨by simpa using h 0 (by simp),ih (i+1) fun j hj=>?_⟩
          have:=h (j+1) (by simpa using hj)
          rwa [List.getD_cons_succ,show i+(j+1)=i+1+j by omega] at this
      exact this _ 0 fun j hj=>by rw[Nat.zero_add];exact hp2.get j hj
    rw[costT,if_neg (by omega),if_neg (by rw[hpl2];simp)] at hc2
    dsimp only at hc2
    subst hres
    have hsl:(plan.set c.toNat o).length=plan.length:=List.length_set
    have hopt:o≠-1→optB m c o=true:=fun h=>by rw[optB,decide_eq_true_eq];omega
    have htn:c.toNat<plan.length:=by omega
    by_cases ho1:o = -1
    · refine Holds.of_body' (fn:=Tryz.f26) 61 0 [.tmp 8,.tmp 9] Tryz.func26 rfl rfl rfl rfl rfl (by simp) ?_
      repeat' (first|((fail_if_success (first|refine W_at 8 ?_|refine W_atE 8 ?_));refine Xq (X2 @bne_self_eq_false.{0} @ints_set) ?_;intro K hK)|refine Xo (X2 @bne_self_eq_false.{0} @ints_set) ?_|refine Xc (hcost) ?_|refine Xc (hop) ?_|(refine hK _ ?_;clear hK K)|(refine Xg (X2 @bne_self_eq_false.{0} @ints_set) ?_ ?_<;>try intro hb)|(refine Xi ?_ ?_<;>try intro ht)|refine XY ?_|refine Xd ?_ ?_|exact Xx|fail)
      all_goals try (exfalso;omega)
      refine W_turn (σ':=⟨slots [(4,.ptr 0 0 0),(13,.tree 1 (ints (plan.set c.toNat o)))],[.var (eMdl m)]⟩) (Xs true [0] X0) ?_
      ((try revert hK K);(repeat' (first|refine Vd X0 hc2 ?_|(refine V2 X0 ?_ ?_<;>try with_reducible intro hb)|(refine Xi ?_ ?_<;>try intro ht)|refine VD ?_ ?_|exact Xx|fail))<;>try with_reducible intro K hK)
      exact RetOK_pure' rfl rfl
    · rw[hopt ho1] at hop
      refine Holds.of_body' (fn:=Tryz.f26) 61 0 [.tmp 8,.tmp 9] Tryz.func26 rfl rfl rfl rfl rfl (by simp) ?_
      repeat' (first|((fail_if_success (first|refine W_at 8 ?_|refine W_atE 8 ?_));refine Xq (X2 @bne_self_eq_false.{0} @ints_set) ?_;intro K hK)|refine Xo (X2 @bne_self_eq_false.{0} @ints_set) ?_|refine Xc (hcost) ?_|refine Xc (hop) ?_|(refine hK _ ?_;clear hK K)|(refine Xg (X2 @bne_self_eq_false.{0} @ints_set) ?_ ?_<;>try intro hb)|(refine Xi ?_ ?_<;>try intro ht)|refine XY ?_|refine Xd ?_ ?_|exact Xx|fail)
      all_goals try (exfalso;omega)
      all_goals try (first|exact RetOK_pure' rfl rfl|(exfalso;simp at *;done))
      refine W_turn (σ':=⟨slots [(4,.ptr 0 0 0),(13,.tree 1 (ints (plan.set c.toNat o)))],[.var (eMdl m)]⟩) (Xs true [0] X0) ?_
      ((try revert hK K);(repeat' (first|refine Vd X0 hc2 ?_|(refine V2 X0 ?_ ?_<;>try with_reducible intro hb)|(refine Xi ?_ ?_<;>try intro ht)|refine VD ?_ ?_|exact Xx|fail))<;>try with_reducible intro K hK)
      exact RetOK_pure' rfl rfl
end T

