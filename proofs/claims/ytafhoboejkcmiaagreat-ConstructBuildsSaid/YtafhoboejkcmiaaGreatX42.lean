import Derived.Test.YtafhoboejkcmiaaGreatX39
import Derived.Test.YtafhoboejkcmiaaGreatX25
set_option linter.unusedVariables false
set_option linter.unusedSimpArgs false
set_option linter.unnecessarySimpa false
set_option linter.unusedSectionVars false
set_option maxHeartbeats 64000000
set_option maxRecDepth 20000
open Go Go.Am Go.Proofs
open Nat (reduceEqDiff reduceAdd reduceLeDiff reduceMul)
open Int (reduceNeg reduceLE reduceToNat)
namespace T
theorem Eject_ok (m:Mdl) (plan:List Int) (cl o:Int) (hb:MB m) (hpl:plan.length<9223372036854775808) :
    Holds Tryz.prog 27 [.agg (eMdl m),.tree 1 (ints plan),.lit (.int .i64 cl),.lit (.int .i64 o)] [] (.tup [.tree 1 (ints (ejT m plan cl o).1),.tree 1 (ints (ejT m plan cl o).2.1),.lit (.int .i64 (ejT m plan cl o).2.2)]) []:=by
  generalize hres:ejT m plan cl o=res
  unfold ejT at hres
  refine Holds.of_body' (fn:=Tryz.f27) 57 0 [.tmp 8,.tmp 9,.tmp 10] Tryz.func27 rfl rfl rfl rfl rfl (by simp) ?_
  ((try revert hK K);(repeat' (first|refine Vd X0 (valid_ok m hb) ?_|(refine V2 X0 ?_ ?_<;>try with_reducible intro hb)|(refine Xi ?_ ?_<;>try intro ht)|refine VD ?_ ?_|exact Xx|fail))<;>try with_reducible intro K hK)
  · rw[if_pos ht] at hres
    rw[← hres]
    exact RetOK_sel [] true (by decide) trivial (by decide) (by decide) (tup3 ArgR.nil ArgR.nil (.pure rfl))
  rw[if_neg (by omega)] at hres
  have hvm:=valid_iff.1 (by omega)
  have hpo:=isPlan_ok m plan hb hpl
  cases hpv:plannedV m plan with
  | false =>
    rw[hpv] at hpo
    rw[if_pos hpv] at hres
    ((try revert hK K);(repeat' (first|refine Vd X0 hpo ?_|(refine V2 X0 ?_ ?_<;>try with_reducible intro hb)|(refine Xi ?_ ?_<;>try intro ht)|refine VD ?_ ?_|exact Xx|fail))<;>try with_reducible intro K hK)
    rw[← hres]
    exact RetOK_sel [] true (by decide) trivial (by decide) (by decide) (tup3 ArgR.nil ArgR.nil (.pure rfl))
  | true =>
    rw[hpv] at hpo
    rw[if_neg (by rw[hpv];decide)] at hres
    have hpm:=planned_pm hpv
    have hpl2:=hpm.len
    have hc24:=hvm.cls
    cases hob:optB m cl o with
    | false =>
      rw[if_pos hob] at hres
      have hno:¬ (0≤cl∧cl<m.cls.length∧0≤o∧o<(m.cls.getD cl.toNat default).length):=fun h=>by rw[optB_iff.2 h] at hob;cases hob
      have h24:(m.cls.getD cl.toNat default).length≤24:=by
        rcases Nat.lt_or_ge cl.toNat m.cls.length with h | h
        · exact hvm.opt _ (getD_mem h)
        · rw[List.getD_eq_getElem?_getD,List.getElem?_eq_none h];decide
      generalize hlc:m.cls.getD cl.toNat default=lc at *
      ((try revert hK K);(repeat' (first|refine Vd @hlc hpo ?_|(refine V2 @hlc ?_ ?_<;>try with_reducible intro hb)|(refine Xi ?_ ?_<;>try intro ht)|refine VD ?_ ?_|exact Xx|fail))<;>try with_reducible intro K hK)
      all_goals try (exfalso;omega)
      all_goals
        rw[← hres]
        exact RetOK_sel [] true (by decide) trivial (by decide) (by decide) (tup3 ArgR.nil ArgR.nil (.pure rfl))
    | true =>
      rw[if_neg (by rw[hob];decide)] at hres
      obtain ⟨b1,b2,b3,b4⟩:=optB_iff.1 hob
      have h24:=hvm.opt _ (getD_mem (l:=m.cls) (i:=cl.toNat) (d:=default) (by omega))
      have hej:=eject_ok m hvm plan hpm cl o hob
      generalize hlc:m.cls.getD cl.toNat default=lc at *
      generalize ejV m plan cl o=e at *
      cases e with
      | none =>
        unfold ejR ejOb at hej
        dsimp only at hres
        ((try revert hK K);(repeat' (first|refine Vd @hlc hpo ?_|(refine V2 @hlc ?_ ?_<;>try with_reducible intro hb)|(refine Xi ?_ ?_<;>try intro ht)|refine VD ?_ ?_|exact Xx|fail))<;>try with_reducible intro K hK)
        all_goals try (exfalso;omega)
        (refine Xn [] (hej) ?_;simp (disch:=omega) only[Ac,↓Pc,simprocAttr])
        ((try revert hK K);(repeat' (first|refine Vb X0 ?_|(refine V2 X0 ?_ ?_<;>try with_reducible intro hb)|(refine Xi ?_ ?_<;>try intro ht)|refine VD ?_ ?_|exact Xx|fail))<;>try with_reducible intro K hK)
        rw[← hres]
        exact RetOK_sel [] true (by decide) trivial (by decide) (by decide) (tup3 ArgR.nil ArgR.nil (.pure rfl))
      | some r =>
        unfold ejR ejOb at hej
        dsimp only at hres hej
        ((try revert hK K);(repeat' (first|refine Vd @hlc hpo ?_|(refine V2 @hlc ?_ ?_<;>try with_reducible intro hb)|(refine Xi ?_ ?_<;>try intro ht)|refine VD ?_ ?_|exact Xx|fail))<;>try with_reducible intro K hK)
        all_goals try (exfalso;omega)
        (refine Xn [] (hej) ?_;simp (disch:=omega) only[Ac,↓Pc,simprocAttr])
        ((try revert hK K);(repeat' (first|refine Vb X0 ?_|(refine V2 X0 ?_ ?_<;>try with_reducible intro hb)|(refine Xi ?_ ?_<;>try intro ht)|refine VD ?_ ?_|exact Xx|fail))<;>try with_reducible intro K hK)
        rw[← hres]
        exact RetOK_sel [] true (by decide) trivial (by decide) (by decide) (tup3 (ArgR.frz (rows:=ints r.1) rfl (ints_wid _) (by rw[ints_length]) (not_kept (by decide)) (ints_frz _)) (.pure rfl) (.pure rfl))
end T

