import Derived.Test.YtmhloinjpcabcaaGreatX37
set_option linter.unusedVariables false
set_option linter.unusedSimpArgs false
set_option linter.unnecessarySimpa false
set_option linter.unusedSectionVars false
set_option maxHeartbeats 64000000
set_option maxRecDepth 20000
open Go Go.Am Go.Proofs
open Nat (reduceEqDiff reduceAdd reduceLeDiff reduceMul)
open Int (reduceNeg reduceLE reduceToNat)
namespace T
theorem totL_in:∀ (l:List Int) (n:Int),(∀ x∈l,In41 x)→In41 n→In41 (totalL l n)
  | [],_,_,h=>h
  | x::r,n,hl,h=>totL_in r _ (fun y hy=>hl y (by simp[hy])) (addC_in h (hl x (by simp)))
theorem costP_in {m:Mdl} (hm:VM m) (plan:List Int):In41 (costP m plan):=totL_in _ _ (rulesV_ok hm plan).2 (by unfold In41;decide)
theorem with_ok (m:Mdl) (plan:List Int) (c i:Int) (hm:VM m) (hp:PM m plan) (hc:0≤c) (ho:optB m c i=true) :
    Holds Tryz.prog 71 [.agg (eMdl m),.ref 0 1 0 plan.length,.lit (.int .i64 c),.lit (.int .i64 i)] [.arr 1 (ints plan)] (.lit (.int .i64 (costP m (plan.set c.toNat i)))) [.arr 1 (ints plan)]:=by
  have hb:=optB_iff.1 ho
  have hpl:=hp.len
  have hpm:PM m (plan.set c.toNat i):=pm_set hp (.inr (by rw[Int.toNat_of_nonneg hc];exact ho))
  have htot:=total_ok m _ hm hpm
  rw[totW_eq hm,show totalL (rulesV m (plan.set c.toNat i)) 0=costP m (plan.set c.toNat i) from rfl] at htot
  generalize hold:plan.getD c.toNat 0=old
  have hback:(plan.set c.toNat i).set c.toNat old=plan:=by rw[List.set_set];exact set_selfW (by omega) hold
  generalize costP m (plan.set c.toNat i)=tot at *
  refine Holds.of_body' (fn:=Tryz.f71) 27 1 [.tmp 8] Tryz.func71 rfl rfl rfl rfl rfl (by simp) ?_
  ((try revert hK K);(repeat' (first|refine Vb (X2 @hold @ints_set) ?_|(refine V2 (X2 @hold @ints_set) ?_ ?_<;>try with_reducible intro hb)|(refine Xi ?_ ?_<;>try intro ht)|refine VD ?_ ?_|exact Xx|fail))<;>try with_reducible intro K hK)
  refine callK_snap [] htot (by decide) trivial ⟨.pure rfl,ArgR.frz (rows:=ints (plan.set c.toNat i)) rfl (ints_wid _) (by simp only[Bc,Rc,List.length_set]) (by decide) (ints_frz _),trivial⟩ rfl (by simp) ?_
  have hlen:(plan.set c.toNat i).length=plan.length:=List.length_set
  generalize plan.set c.toNat i=p2 at *
  ((try revert hK K);(repeat' (first|refine Vb (X2 @ints_set @hback) ?_|(refine V2 (X2 @ints_set @hback) ?_ ?_<;>try with_reducible intro hb)|(refine Xi ?_ ?_<;>try intro ht)|refine VD ?_ ?_|exact Xx|fail))<;>try with_reducible intro K hK)
  exact Xw true [0] X0
theorem place_ok (m:Mdl) (plan:List Int) (c:Int) (hm:VM m) (hp:PM m plan) (hc:0≤c∧c<m.cls.length) :
    Holds Tryz.prog 50 [.agg (eMdl m),.ref 0 1 0 plan.length,.lit (.int .i64 c)] [.arr 1 (ints plan)] (.tup []) [.arr 1 (ints (plan.set c.toNat (plcM m plan c.toNat)))]:=by
  have hpl:=hp.len
  have hcl:=hm.cls
  have hl24:=hm.opt _ (getD_mem (l:=m.cls) (i:=c.toNat) (d:=default) (by omega))
  have hrange:∀ k:Nat,In41 (chgF m plan c.toNat k):=fun k=>costP_in hm _
  have hw:∀ k:Nat,k<(m.cls.getD c.toNat default).length→_:=fun k hk=>with_ok m plan c k hm hp hc.1 (optB_iff.2 ⟨hc.1,hc.2,by omega,by omega⟩)
  generalize hres:plcM m plan c.toNat=res
  unfold plcM at hres
  have hcf:∀ k:Nat,costP m (plan.set c.toNat (k:Int))=chgF m plan c.toNat k:=fun _=>rfl
  simp only[hcf] at hw
  generalize chgF m plan c.toNat=f at *
  generalize hll:m.cls.getD c.toNat default=l at *
  refine Holds.of_body' (fn:=Tryz.f50) 34 1 [] Tryz.func50 rfl rfl rfl rfl rfl (by simp) ?_
  ((try revert hK K);(repeat' (first|refine Vb @hll ?_|(refine V2 @hll ?_ ?_<;>try with_reducible intro hb)|(refine Xi ?_ ?_<;>try intro ht)|refine VD ?_ ?_|exact Xx|fail))<;>try with_reducible intro K hK)
  refine W_loopS (fun z:Nat × Int × Int=>(⟨slots [(1,.ref 0 1 0 plan.length),(2,.lit (.int .i64 c)),(3,.ptr 1 0 0),(6,.lit (.int .i64 z.2.1)),(7,.lit (.int .i64 z.2.2)),(15,.lit (.int .i64 l.length)),(16,.lit (.int .i64 z.1))],[.arr 1 (ints plan),.var (eMdl m)]⟩:St))
    (fun z=>z.1≤l.length∧In41 z.2.1∧plcV f (l.length - z.1) z.1 z.2.1 z.2.2=res) (fun z=>l.length - z.1) (0,1099511627776,-1) ⟨Nat.zero_le _,by unfold In41;decide,hres⟩ (Xv X0) ?_
  rintro ⟨k,s,b⟩ ⟨hk,hs,hr⟩ Ql hnl hel
  dsimp only at hk hs hr ⊢
  by_cases hk':k<l.length
  · rw[show l.length - k=(l.length - (k+1))+1 by omega,plcV] at hr
    have hw:=hw k hk'
    have hrk:=hrange k
    generalize f k=n at *
    ((try revert hK K);(repeat' (first|refine Va X0 ?_|(refine V2 X0 ?_ ?_<;>try with_reducible intro hb)|(refine Xi ?_ ?_<;>try intro ht)|refine VD ?_ ?_|exact Xx|fail))<;>try with_reducible intro K hK)
    (refine Xn [0] (hw) ?_;simp (disch:=omega) only[Ac,↓Pc,simprocAttr])
    ((try revert hK K);(repeat' (first|refine Va X0 ?_|(refine V2 X0 ?_ ?_<;>try with_reducible intro hb)|(refine Xi ?_ ?_<;>try intro ht)|refine VD ?_ ?_|exact Xx|fail))<;>try with_reducible intro K hK)
    · rw[if_pos (by assumption)] at hr
      exact hnl _ (k+1,n,(k:Int)) ⟨by dsimp only;omega,hrk,hr⟩ (by dsimp only;omega) (Xv X0)
    · rw[if_neg (by omega)] at hr
      exact hnl _ (k+1,s,b) ⟨by dsimp only;omega,hs,hr⟩ (by dsimp only;omega) (Xv X0)
  · rw[show l.length - k=0 by omega,plcV] at hr
    subst hr
    ((try revert hK K);(repeat' (first|refine Va X0 ?_|(refine V2 X0 ?_ ?_<;>try with_reducible intro hb)|(refine Xi ?_ ?_<;>try intro ht)|refine VD ?_ ?_|exact Xx|fail))<;>try with_reducible intro K hK)
    refine hel _ _ rfl ?_;clear hnl hel Ql
    repeat (first|refine Xu ?_)
    ((try revert hK K);(repeat' (first|refine Vb @ints_set ?_|(refine V2 @ints_set ?_ ?_<;>try with_reducible intro hb)|(refine Xi ?_ ?_<;>try intro ht)|refine VD ?_ ?_|exact Xx|fail))<;>try with_reducible intro K hK)
    exact Xw true [0] X0
end T

