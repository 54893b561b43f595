import Derived.Test.YtkmfgcbdnijgeaaGreatX39
import Derived.Test.YtkmfgcbdnijgeaaGreatX45
import Derived.Test.YtkmfgcbdnijgeaaGreatX38
set_option linter.unusedVariables false
set_option linter.unusedSimpArgs false
set_option linter.unnecessarySimpa false
set_option linter.unusedSectionVars false
set_option maxHeartbeats 64000000
set_option maxRecDepth 20000
open Go Go.Am Go.Proofs
open Nat (reduceEqDiff reduceAdd reduceLeDiff reduceMul)
open Int (reduceNeg reduceLE reduceToNat)
namespace T
theorem prN_nn:∀ (cls:List (List Opt)),0≤prN cls
  | []=>by rw[prN];decide
  | l::r=>by rw[prN];exact Int.mul_nonneg (by omega) (prN_nn r)
theorem prN_le4:∀ (cls:List (List Opt)) (k:Nat),cls.length≤k→(∀ l∈cls,l.length≤4)→prN cls≤(4:Int) ^ k
  | [],k,_,_=>by
    rw[prN]
    have:(0:Int)<(4:Int) ^ k:=Int.pow_pos (by omega)
    omega
  | l::r,0,hk,_=>by simp at hk
  | l::r,k+1,hk,h=>by
    have h1:=h l (by simp)
    have h2:=prN_le4 r k (by simpa using hk) fun x hx=>h x (by simp[hx])
    have h3:=prN_nn r
    rw[prN,Int.pow_succ,Int.mul_comm]
    exact Int.mul_le_mul h2 (by omega) (by omega) (by omega)
theorem prN_zero:∀ (cls:List (List Opt)),prN cls=0→[]∈cls
  | [],h=>by rw[prN] at h;omega
  | l::r,h=>by
    rw[prN] at h
    rcases Int.mul_eq_zero.1 h with h | h
    · have:l=[]:=List.eq_nil_of_length_eq_zero (by omega)
      simp[this]
    · simp[prN_zero r h]
theorem prN_one:∀ (cls:List (List Opt)),[]∈cls→prN cls=0
  | [],h=>by simp at h
  | l::r,h=>by
    rw[prN]
    rcases List.mem_cons.1 h with h | h
    · rw[← h];simp
    · rw[prN_one r h,Int.mul_zero]
theorem casesF_ok (m:Mdl) (hm:FW m):Holds Tryz.prog 23 [.agg (eMdl m)] [] (.lit (.int .i64 (prN m.cls))) []:=by
  have hc24:=hm.few
  have hb:prN m.cls≤256:=prN_le4 m.cls 4 hm.few hm.opt
  generalize hres:prN m.cls=res at *
  refine Holds.of_body' (fn:=Tryz.f23) 26 0 [.tmp 2] Tryz.func23 rfl rfl rfl rfl rfl (by simp) ?_
  refine Vb X0 ?_
  refine W_loopS (fun z:Nat × Int=>(⟨slots [(1,.ptr 0 0 0),(3,.lit (.int .i64 z.2)),(4,.lit (.int .i64 z.1))],[.var (eMdl m)]⟩:St)) (fun z=>z.1≤m.cls.length∧0≤z.2∧z.2≤4 ^ z.1∧z.2 * prN (m.cls.drop z.1)=res) (fun z=>m.cls.length - z.1) (0,1) ⟨Nat.zero_le _,by decide,by decide,by rw[List.drop_zero,hres];exact Int.one_mul _⟩ (Xv X0) ?_
  rintro ⟨i,n⟩ ⟨hi,hn1,hn2,hr⟩ Ql hnl hel
  dsimp only at hi hn1 hn2 hr ⊢
  have hp4:∀ j,j≤4→(4:Int) ^ j≤256:=fun j hj=>by
    have h1:(4:Nat) ^ j≤4 ^ 4:=Nat.pow_le_pow_right (by decide) hj
    have h2:((4 ^ j:Nat):Int)≤((4 ^ 4:Nat):Int):=Int.ofNat_le.2 h1
    rw[Int.natCast_pow] at h2
    exact h2
  have hn256:=hp4 i (by omega)
  by_cases hi':i<m.cls.length
  · have hl24:=hm.opt _ (getD_mem (l:=m.cls) (i:=i) (d:=default) hi')
    rw[getD_drop0 m.cls i default hi',prN,← Int.mul_assoc] at hr
    generalize hcc:m.cls.getD i default=c at *
    have hm1:0≤n * (c.length:Int):=Int.mul_nonneg hn1 (by omega)
    have hm2:n * (c.length:Int)≤4 ^ (i+1):=by
      rw[Int.pow_succ];exact Int.mul_le_mul hn2 (by omega) (by omega) (by omega)
    have hm3:=hp4 (i+1) (by omega)
    generalize hnc:n * (c.length:Int)=nc at *
    ((repeat' (first|refine Va (X3 @hcc @eCls.eq_1 @hnc) ?_|(refine V2 (X3 @hcc @eCls.eq_1 @hnc) ?_ ?_<;>try with_reducible intro hb)|(refine Xi ?_ ?_<;>try intro ht)|exact Xx|fail)))
    exact hnl _ (i+1,nc) ⟨by dsimp only;omega,hm1,hm2,hr⟩ (by dsimp only;omega) (Xv X0)
  · rw[List.drop_eq_nil_of_le (by omega),prN,Int.mul_one] at hr
    ((repeat' (first|refine Va X0 ?_|(refine V2 X0 ?_ ?_<;>try with_reducible intro hb)|(refine Xi ?_ ?_<;>try intro ht)|exact Xx|fail)))
    all_goals
      refine hel _ _ rfl ?_;clear hnl hel Ql
      repeat (refine Xu ?_)
      refine Vb X0 ?_
      exact RetOK_pure' rfl (by rw[← hr,Int.min_eq_left (by omega)])
theorem best_empty {m:Mdl} (h:[]∈m.cls):(bestF m m.cls.length []).2=1099511627776:=by
  rcases bestF_or m m.cls.length [] with h1 | h1
  · rw[h1]
  · obtain ⟨hfp,_⟩:=best_plan h1
    obtain ⟨i,hi,he⟩:=List.getElem_of_mem h
    have:=(optB_iff.1 (hfp.2 i (by rw[hfp.1];exact hi))).2.2.2
    have h0:=(optB_iff.1 (hfp.2 i (by rw[hfp.1];exact hi))).2.2.1
    rw[Int.toNat_natCast,show m.cls.getD i default=[] by rw[List.getD_eq_getElem?_getD,List.getElem?_eq_getElem hi,Option.getD_some,he],List.length_nil] at this
    omega
theorem bproves_law (tape:List Int) (wh:Int):Holds Tryz.prog 6 [.tree 1 (ints tape),.lit (.int .i64 wh)] [] (.lit (.bool true)) []:=by
  refine Holds.of_body' (fn:=Tryz.f6) 74 0 [.tmp 4] Tryz.func6 rfl rfl rfl rfl rfl (by simp) ?_
  repeat' (first|((fail_if_success (first|refine W_at 3 ?_|refine W_atE 3 ?_));refine Xq X0 ?_;intro K hK)|refine Xo X0 ?_|refine Xc (light_ok _) ?_|refine Xc (awakeB_ok) ?_|(refine hK _ ?_;clear hK K)|(refine Xi ?_ ?_<;>try intro ht)|refine XY ?_|fail)
  · exact RetOK_pure' rfl rfl
  have hL:tape.length<1000000:=by omega
  have hsm:=few_ok tape 0 (Nat.zero_le _) hL
  refine W_region_ce 2 (by decide) _ rfl ?_
  intro K hK
  simp (disch:=omega) only[Ac,↓Pc,simprocAttr,List.take,List.drop]
  (refine Xn [] (roll_ok tape) ?_;simp (disch:=omega) only[Ac,↓Pc,simprocAttr])
  unfold dice at hsm
  refine⟨rfl,(show callKR Tryz.prog 21 [.ptr 0 0 0] (some 19) _ _ from ?_)⟩
  refine callKR_sel [0] hsm (by decide) ⟨rfl,trivial⟩ ⟨.eq rfl,trivial⟩ ?_
  rintro r os ⟨m,k,hm,hk,rfl,rfl⟩
  simp (disch:=omega) only[Ac,↓Pc,simprocAttr]
  refine hK _ ?_;clear hK K
  repeat (refine Xu ?_)
  refine W_turn (Turns.frzP 5 1 (cells:=eMdl m) (by rfl) (by simp only[Kc,simprocAttr]) (by simp[eMdl])) ?_
  refine W_turn (σ':=⟨slots [(1,.lit (.int .i64 wh)),(5,.taddr (eMdl m))],[]⟩) (Xs false [] X0) ?_
  clear hsm hk k hL
  have hvm:=hm.vm
  obtain ⟨l1,l2,l3,l4,l5⟩:=least_law hvm (.inr hm.cap)
  have h3:=leastGood_ok m hvm l1
  have h4:=check_ok m (leastD m).nodes hvm.mb (least_pb hvm).1
  rw[l4] at h4
  have hem:=@best_empty m
  have hle:=@best_le m
  have hbt:=congrArg Prod.snd l2
  dsimp only at hbt
  rw[← hbt] at hem hle
  have hrp:∀ ρ,ren ρ (planA (.lit (.slice none 0 0)) 1099511627776 (leastD m))=planA (.lit (.slice none 0 0)) 1099511627776 (leastD m):=fun ρ=>by unfold planA;split<;>rfl
  have hsa:scal (planA (.lit (.slice none 0 0)) 1099511627776 (leastD m))=true:=by unfold planA;split<;>rfl
  have h5:=casesF_ok m hm
  unfold outA at h3
  rw[l3] at h3
  dsimp only at h4
  generalize planA (.lit (.slice none 0 0)) 1099511627776 (leastD m)=pa at *
  generalize (leastD m).tot=tt at *
  generalize (leastD m).nodes=P at *
  clear l1 l2 l3 l4 l5 hbt
  ((refine Vb X0 ?_)<;>try with_reducible intro K hK)
  (refine Xn [] (h3) ?_;simp (disch:=omega) only[Ac,↓Pc,simprocAttr,hrp])
  repeat' (first|((fail_if_success (first|refine W_at 10 ?_|refine W_atE 10 ?_));refine Xq (X4 @hsa @hrp @bne_self_eq_false.{0} @beq_self_eq_true.{0}) ?_;intro K hK)|refine Xo (X4 @hsa @hrp @bne_self_eq_false.{0} @beq_self_eq_true.{0}) ?_|refine Xc (h4) ?_|refine Xc (h5) ?_|refine Xc (awakeB_ok) ?_|(refine hK _ ?_;clear hK K)|(refine Xg (X4 @hsa @hrp @bne_self_eq_false.{0} @beq_self_eq_true.{0}) ?_ ?_<;>try intro hb)|(refine Xi ?_ ?_<;>try intro ht)|refine XY ?_|refine Xd ?_ ?_|exact Xx|fail)
  · exact RetOK_pure' rfl (by simp)
  · exact absurd (hem (prN_zero _ ht)) hb
  have hsome:∀ l∈m.cls,1≤l.length:=fun l hl=>by
    rcases Nat.eq_zero_or_pos l.length with h | h
    · rw[List.eq_nil_of_length_eq_zero h] at hl
      exact absurd (prN_one _ hl) ht
    · exact h
  have hn0:=prN_nn m.cls
  have hn1:prN m.cls≤256:=prN_le4 m.cls 4 hm.few hm.opt
  generalize prN m.cls=nc at *
  have h6:=mod_ok wh nc (by unfold In64;omega)
  have hx1:=modI_range wh nc (by omega)
  generalize modI wh nc=x at *
  have h7:=caseF_ok m hvm hsome x hx1.1 (by omega)
  have hfp:=caseF_fp hsome x
  have hlw:=hle hfp
  have hpl:=hfp.len
  generalize caseF m.cls x=plan at *
  have h8:=refCost_ok m plan hvm.mb (by have:=hvm.cls;omega)
  rw[costT_ok hvm hfp.pm] at h8
  dsimp only at h8
  unfold totP at hlw
  generalize totalL (rulesV m plan) 0=tot at *
  ((repeat' (first|refine Vd (X2 @bne_self_eq_false.{0} @beq_self_eq_true.{0}) (X5 h5 h6 h7 h8 awakeB_ok) ?_|(refine V2 (X2 @bne_self_eq_false.{0} @beq_self_eq_true.{0}) ?_ ?_<;>try with_reducible intro hb)|exact Xx|fail)))
  all_goals exact RetOK_pure' rfl (by first|rfl|simp)
end T

