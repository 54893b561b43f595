import Derived.Test.YtkmfgcbdnijgeaaGreatX45
import Derived.Test.YtkmfgcbdnijgeaaGreatX49
import Derived.Test.YtkmfgcbdnijgeaaGreatX50
import Derived.Test.YtkmfgcbdnijgeaaGreatX52
import Derived.Test.YtkmfgcbdnijgeaaGreatX44
import Derived.Test.YtkmfgcbdnijgeaaGreatX32
set_option linter.unusedVariables false
set_option linter.unusedSimpArgs false
set_option linter.unnecessarySimpa false
set_option linter.unusedSectionVars false
set_option maxHeartbeats 64000000
set_option maxRecDepth 20000
open Go Go.Am Go.Proofs
open Nat (reduceEqDiff reduceAdd reduceLeDiff reduceMul)
open Int (reduceNeg reduceLE reduceToNat)
namespace T
theorem rightL_ok (m:Mdl) (hm:VM m) (hf:[]∈m.cls∨capQ m m.cls.length≤8000):Holds Tryz.prog 19 [.agg (eMdl m),outA (leastD m)] [] (.lit (.bool true)) []:=by
  obtain ⟨l1,l2,l3,l4,l5⟩:=least_law hm hf
  have hP:=(least_pb hm).1
  have hq:=refCheck_ok m (leastD m).nodes hm.mb hP (fun x left hx hv hf=>right_ok m x left hv hf (hP.grp x hx) (hP.cells x hx) (hP.cell x hx))
  rw[chk_same,l4] at hq
  have hbp:=@best_plan m
  have hor:=bestF_or m m.cls.length []
  have hn0:m.cls.length=0→bestF m m.cls.length []=([],0):=fun h=>by
    rw[h]
    unfold bestF
    rw[tot_none hm h,if_neg (by omega)]
  rw[← l2] at hbp hor hn0
  have hc24:=hm.cls
  unfold outA
  rw[l3]
  dsimp only at hq hbp
  rcases hor with h | h
  · have hp:=congrArg Prod.fst h
    have ht:=congrArg Prod.snd h
    dsimp only at hp ht
    have hpa:planA (.lit (.slice none 0 0)) 1099511627776 (leastD m)=.lit (.slice none 0 0):=by unfold planA;rw[ht,if_neg (by omega)]
    have hn:0<m.cls.length:=by
      rcases Nat.eq_zero_or_pos m.cls.length with h0 | h0
      · have:=congrArg Prod.snd (hn0 h0)
        dsimp only at this
        omega
      · exact h0
    rw[hpa]
    rw[ht] at hq ⊢
    generalize (leastD m).nodes=P at *
    (try clear hn0;clear hbp h ht hp hpa l1 l2 l3 l4 l5)
    refine Holds.of_body' (fn:=Tryz.f19) 72 0 [.tmp 4] Tryz.func19 rfl rfl rfl rfl rfl (by simp) ?_
    ((repeat' (first|refine Vd X0 hq ?_|(refine Xi ?_ ?_<;>try intro ht)|exact Xx|fail)))
    all_goals try (exfalso;simp_all;done)
    all_goals exact RetOK_pure' rfl (by first|rfl|simp)
  · dsimp only at h
    obtain ⟨hfp,htp⟩:=hbp h
    have hpa:planA (.lit (.slice none 0 0)) 1099511627776 (leastD m)=.tree 1 (ints (leastD m).plan):=by unfold planA;rw[if_pos h]
    have hco:=refCost_ok m (leastD m).plan hm.mb (by have:=hfp.len;omega)
    rw[costT_ok hm hfp.pm] at hco
    dsimp only at hco
    have hcm:=refComplete_ok m (leastD m).plan hm.mb (by have:=hfp.len;omega)
    rw[fp_com hm hfp] at hcm
    unfold totP at htp
    rw[htp] at hco
    rw[hpa]
    have hpl:=hfp.len
    generalize (leastD m).nodes=P at *
    generalize rulesV m (leastD m).plan=rl at *
    generalize (leastD m).plan=plan at *
    generalize (leastD m).tot=tot at *
    (try clear hn0;clear l1 l2 l3 l4 l5 htp hpa)
    refine Holds.of_body' (fn:=Tryz.f19) 72 0 [.tmp 4] Tryz.func19 rfl rfl rfl rfl rfl (by simp) ?_
    ((repeat' (first|refine Vd @bne_self_eq_false.{0} (X3 hq hco hcm) ?_|(refine V2 @bne_self_eq_false.{0} ?_ ?_<;>try with_reducible intro hb)|(refine Xi ?_ ?_<;>try intro ht)|exact Xx|fail)))
    all_goals exact RetOK_pure' rfl (by first|rfl|(rw[decide_eq_true h];done)|simp_all|(simp;omega))
theorem em_few {m:Mdl} (h:EM m 4 2):capQ m m.cls.length≤8000 :=
  Nat.le_trans (capQ_le (w:=5) (fun l hl=>(h.some l hl).2) _ (Nat.le_refl _)) (Nat.le_trans (Nat.pow_le_pow_right (by decide) h.few) (by decide))
theorem beven_law (tape:List Int):Holds Tryz.prog 5 [.tree 1 (ints tape)] [] (.lit (.bool true)) []:=by
  refine Holds.of_body' (fn:=Tryz.f5) 53 0 [.tmp 2] Tryz.func5 rfl rfl rfl rfl rfl (by simp) ?_
  repeat' (first|((fail_if_success (first|refine W_at 3 ?_|refine W_atE 3 ?_));refine Xq X0 ?_;intro K hK)|refine Xo X0 ?_|refine Xc (light_ok _) ?_|refine Xc (awakeB_ok) ?_|(refine hK _ ?_;clear hK K)|(refine Xg X0 ?_ ?_<;>try intro hb)|(refine Xi ?_ ?_<;>try intro ht)|refine XY ?_|refine Xd ?_ ?_|exact Xx|fail)
  · exact RetOK_pure' rfl rfl
  have hL:tape.length<1000000:=by omega
  have hsm:=even_ok tape 0 4 2 (Nat.zero_le _) hL (by decide) (by decide)
  refine W_region_ce 2 (by decide) _ rfl ?_
  intro K hK
  simp (disch:=omega) only[Ac,↓Pc,simprocAttr,List.take,List.drop]
  (refine Xn [] (roll_ok tape) ?_;simp (disch:=omega) only[Ac,↓Pc,simprocAttr])
  unfold dice at hsm
  refine⟨rfl,(show callKR Tryz.prog 20 [.ptr 0 0 0,.lit (.int .i64 (4:Nat)),.lit (.int .i64 (2:Nat))] (some 14) _ _ from ?_)⟩
  refine callKR_sel [0] hsm (by decide) ⟨rfl,trivial⟩ ⟨.eq rfl,.pure rfl,.pure rfl,trivial⟩ ?_
  rintro r os ⟨m,k,hm,hk,rfl,rfl⟩
  simp (disch:=omega) only[Ac,↓Pc,simprocAttr]
  refine hK _ ?_;clear hK K
  repeat (first|refine Xu ?_)
  refine W_turn (σ':=⟨slots [(3,.ptr 0 0 0)],[.var (eMdl m)]⟩) (Xs false [1] X0) ?_
  clear hsm hk k hL
  have hvm:=hm.vm
  have hrp:∀ ρ,ren ρ (planA (.lit (.slice none 0 0)) 1099511627776 (leastD m))=planA (.lit (.slice none 0 0)) 1099511627776 (leastD m):=fun ρ=>by unfold planA;split<;>rfl
  have hsa:scal (planA (.lit (.slice none 0 0)) 1099511627776 (leastD m))=true:=by unfold planA;split<;>rfl
  have hf:[]∈m.cls∨capQ m m.cls.length≤8000:=.inr (em_few hm)
  obtain ⟨l1,l2,l3,l4,l5⟩:=least_law hvm hf
  have h3:=leastGood_ok m hvm l1
  have h4:=rLeastB_ok m hvm
  have h5:=rightL_ok m hvm hf
  have hor:=bestF_or m m.cls.length []
  have hfpl:=@best_plan m
  rw[← l2] at h4 hor hfpl
  dsimp only at h4 hfpl
  have h6:Holds Tryz.prog 18 [planA (.lit (.slice none 0 0)) 1099511627776 (leastD m),.tree 1 (ints (leastD m).plan)] [] (.lit (.bool true)) []:=by
    rcases hor with h | h
    · have e1:=congrArg Prod.fst h
      have e2:=congrArg Prod.snd h
      dsimp only at e1 e2
      unfold planA
      rw[e2,if_neg (by omega),e1]
      have:=same_ok [] [] (by decide)
      exact Holds.nilArg (pre:=[]) (post:=[.tree 1 (ints [])]) this
    · have hpl:=(hfpl h).1.len
      have hc:=hvm.cls
      unfold planA
      rw[if_pos h]
      have:=same_ok (leastD m).plan (leastD m).plan (by omega)
      rwa [decide_eq_true rfl] at this
  unfold outA at h3 h5
  rw[l3] at h3 h5
  generalize planA (.lit (.slice none 0 0)) 1099511627776 (leastD m)=pa at *
  generalize (leastD m).plan=pl at *
  generalize (leastD m).tot=tt at *
  generalize (leastD m).nodes=P at *
  clear l1 l2 l3 l4 l5 hor hfpl hf hm
  ((try revert hK K);(repeat' (first|refine Vb X0 ?_|(refine V2 X0 ?_ ?_<;>try with_reducible intro hb)|(refine Xi ?_ ?_<;>try intro ht)|refine VD ?_ ?_|exact Xx|fail))<;>try with_reducible intro K hK)
  (refine Xn [] (h3) ?_;simp (disch:=omega) only[Ac,↓Pc,simprocAttr,hrp])
  ((try revert hK K);(repeat' (first|refine Vd (X4 @hsa @hrp @bne_self_eq_false.{0} @beq_self_eq_true.{0}) (X4 h4 h6 h5 awakeB_ok) ?_|(refine V2 (X4 @hsa @hrp @bne_self_eq_false.{0} @beq_self_eq_true.{0}) ?_ ?_<;>try with_reducible intro hb)|(refine Xi ?_ ?_<;>try intro ht)|refine VD ?_ ?_|exact Xx|fail))<;>try with_reducible intro K hK)
  all_goals try (exfalso;omega)
  refine callK_sel [] h6 (by decide) trivial ⟨.eq (hrp _).symm,.pure rfl,trivial⟩ ?_
  simp (disch:=omega) only[Ac,↓Pc,simprocAttr,hrp]
  ((try revert hK K);(repeat' (first|refine Vd (X3 @hsa @hrp @beq_self_eq_true.{0}) awakeB_ok ?_|(refine V2 (X3 @hsa @hrp @beq_self_eq_true.{0}) ?_ ?_<;>try with_reducible intro hb)|(refine Xi ?_ ?_<;>try intro ht)|refine VD ?_ ?_|exact Xx|fail))<;>try with_reducible intro K hK)
  all_goals try (exfalso;omega)
  refine callK_sel [] h5 (by decide) trivial ⟨.pure rfl,.eq (by simp[ren,renL,hrp]),trivial⟩ ?_
  simp (disch:=omega) only[Ac,↓Pc,simprocAttr,hrp]
  ((try revert hK K);(repeat' (first|refine Vd (X3 @hsa @hrp @beq_self_eq_true.{0}) awakeB_ok ?_|(refine V2 (X3 @hsa @hrp @beq_self_eq_true.{0}) ?_ ?_<;>try with_reducible intro hb)|(refine Xi ?_ ?_<;>try intro ht)|refine VD ?_ ?_|exact Xx|fail))<;>try with_reducible intro K hK)
  all_goals try (exfalso;omega)
  all_goals exact RetOK_pure' rfl (by first|rfl|simp)
end T

