import Derived.Test.YtmhloinjpcabcaaGreatX50
import Derived.Test.YtmhloinjpcabcaaGreatX45
import Derived.Test.YtmhloinjpcabcaaGreatX14
import Derived.Test.YtmhloinjpcabcaaGreatX51
import Derived.Test.YtmhloinjpcabcaaGreatX46
import Derived.Test.YtmhloinjpcabcaaGreatX44
import Derived.Test.YtmhloinjpcabcaaGreatX52
import Derived.Test.YtmhloinjpcabcaaGreatX36
set_option linter.unusedVariables false
set_option linter.unusedSimpArgs false
set_option linter.unnecessarySimpa false
set_option linter.unusedSectionVars false
set_option maxHeartbeats 64000000
set_option maxRecDepth 20000
open Go Go.Am Go.Proofs
open Nat (reduceEqDiff reduceAdd reduceLeDiff reduceMul)
open Int (reduceNeg reduceLE reduceToNat)
namespace T
theorem nbT_len (m:Mdl):(nbT m).1.length≤m.cls.length:=by
  unfold nbT
  split
  · exact Nat.zero_le _
  · rw[nbV_len];exact Nat.le_refl _
theorem ordT_len (m:Mdl):(ordT m).1.length≤m.cls.length:=by
  unfold ordT
  split
  · exact Nat.zero_le _
  · rw[orderV_len];exact Nat.le_refl _
theorem orders_law (tape:List Int):Holds Tryz.prog 4 [.tree 1 (ints tape)] [] (.lit (.bool true)) []:=by
  refine Holds.of_body' (fn:=Tryz.f4) 60 0 [.tmp 2] Tryz.func4 rfl rfl rfl rfl rfl (by simp) ?_
  repeat' (first|((fail_if_success (first|refine W_at 3 ?_|refine W_atE 3 ?_));refine Xq X0 ?_;intro K hK)|refine Xo X0 ?_|refine Xc (light_ok _) ?_|refine Xc (awake26_ok) ?_|(refine hK _ ?_;clear hK K)|(refine Xg X0 ?_ ?_<;>try intro hb)|(refine Xi ?_ ?_<;>try intro ht)|refine XY ?_|refine Xd ?_ ?_|exact Xx|fail)
  · exact RetOK_pure' rfl rfl
  have hL:tape.length<1000000:=by omega
  have hsm:=some26q_ok tape 0 (Nat.zero_le _) hL
  refine W_region_ce 2 (by decide) _ rfl ?_
  intro K hK
  simp (disch:=omega) only[Ac,↓Pc,simprocAttr,List.take,List.drop]
  (refine Xn [] (roll_ok tape) ?_;simp (disch:=omega) only[Ac,↓Pc,simprocAttr])
  unfold dice at hsm
  refine⟨rfl,(show callKR Tryz.prog 9 [.ptr 0 0 0] (some 18) _ _ from ?_)⟩
  refine callKR_sel [0] hsm (by decide) ⟨rfl,trivial⟩ ⟨.eq rfl,trivial⟩ ?_
  rintro r os ⟨m,k,hm,hk,rfl,rfl⟩
  simp (disch:=omega) only[Ac,↓Pc,simprocAttr]
  refine hK _ ?_;clear hK K
  repeat (first|refine Xu ?_)
  refine W_turn (Turns.frzP 3 1 (cells:=eMdl m) (by rfl) (by simp only[Kc,simprocAttr]) (by simp[eMdl])) ?_
  refine W_turn (σ':=⟨slots [(3,.taddr (eMdl m))],[]⟩) (Xs false [] X0) ?_
  clear hsm hk k hL
  have hfew:=hm.few
  have h1:=Neighbours_ok m hm.mb
  have h2:=rNeighbours_ok m hm.mb
  have h3:=Order_ok m hm.mb (by omega)
  have h4:=rOrder_ok m hm.mb
  have h5:=same_ok (nbT m).1 (nbT m).1 (by have:=nbT_len m;omega)
  have h6:=same_ok (ordT m).1 (ordT m).1 (by have:=ordT_len m;omega)
  rw[decide_eq_true rfl] at h5 h6
  generalize (nbT m).1=p1 at *
  generalize (nbT m).2=e1 at *
  generalize (ordT m).1=p2 at *
  generalize (ordT m).2=e2 at *
  ((try revert hK K);(repeat' (first|refine Vd @beq_self_eq_true.{0} (X5 h1 h2 h3 h4 (X3 h5 h6 awake26_ok)) ?_|(refine V2 @beq_self_eq_true.{0} ?_ ?_<;>try with_reducible intro hb)|(refine Xi ?_ ?_<;>try intro ht)|refine VD ?_ ?_|exact Xx|fail))<;>try with_reducible intro K hK)
  all_goals try (exfalso;omega)
  all_goals exact RetOK_pure' rfl (by first|rfl|simp)
theorem grT_len (m:Mdl) (order:List Int):(grT m order).1.length≤m.cls.length:=by
  unfold grT
  split
  · exact Nat.zero_le _
  · split
    · exact Nat.zero_le _
    · exact Nat.zero_le _
    · rw[grdV_len,(noneV_pm0 m).len];exact Nat.le_refl _
theorem greedy_law (tape raw:List Int) (hraw:raw.length<9223372036854775808):Holds Tryz.prog 5 [.tree 1 (ints tape),.tree 1 (ints raw)] [] (.lit (.bool true)) []:=by
  refine Holds.of_body' (fn:=Tryz.f5) 81 0 [.tmp 4] Tryz.func5 rfl rfl rfl rfl rfl (by simp) ?_
  repeat' (first|((fail_if_success (first|refine W_at 3 ?_|refine W_atE 3 ?_));refine Xq X0 ?_;intro K hK)|refine Xo X0 ?_|refine Xc (light_ok _) ?_|refine Xc (awake26_ok) ?_|(refine hK _ ?_;clear hK K)|(refine Xg X0 ?_ ?_<;>try intro hb)|(refine Xi ?_ ?_<;>try intro ht)|refine XY ?_|refine Xd ?_ ?_|exact Xx|fail)
  all_goals try (exact RetOK_pure' rfl rfl)
  have hL:tape.length<1000000:=by omega
  have hr60:raw.length≤60:=by omega
  repeat' (first|((fail_if_success (first|refine W_at 4 ?_|refine W_atE 4 ?_));refine Xr X0 ?_;intro K hK)|refine Xo X0 ?_|(refine hK _ ?_;clear hK K)|(refine Xg X0 ?_ ?_<;>try intro hb)|(refine Xi ?_ ?_<;>try intro ht)|refine Xy ?_|refine Xd ?_ ?_|exact Xx|fail)
  (refine Xn [] (roll_ok tape) ?_;simp (disch:=omega) only[Ac,↓Pc,simprocAttr])
  repeat' (first|((fail_if_success (first|refine W_at 4 ?_|refine W_atE 4 ?_));refine Xr X0 ?_;intro K hK)|refine Xo X0 ?_|(refine hK _ ?_;clear hK K)|(refine Xg X0 ?_ ?_<;>try intro hb)|(refine Xi ?_ ?_<;>try intro ht)|refine Xy ?_|refine Xd ?_ ?_|exact Xx|fail)
  have hsome:=some26q_ok tape 0 (Nat.zero_le _) hL
  unfold dice at hsome
  refine W_region_ce 1 (by decide) _ rfl ?_
  intro K hK
  simp (disch:=omega) only[Ac,↓Pc,simprocAttr,List.take,List.drop]
  refine⟨rfl,(show callKR Tryz.prog 9 [.ptr 0 0 0] (some 29) _ _ from ?_)⟩
  refine callKR_sel [0] hsome (by decide) ⟨rfl,trivial⟩ ⟨.eq rfl,trivial⟩ ?_
  rintro r os ⟨m,k,hm,hk,rfl,rfl⟩
  simp (disch:=omega) only[Ac,↓Pc,simprocAttr]
  refine hK _ ?_;clear hK K
  repeat (first|refine Xu ?_)
  have hmb:=hm.mb
  have hfew:=hm.few
  refine W_turn (σ':=⟨slots [(1,.tree 1 (ints raw)),(5,.ptr 0 0 0),(6,.ptr 1 0 0)],[.var [.tree 1 (ints tape),.lit (.int .i64 k)],.var (eMdl m)]⟩) (Xs false [0,1] X0) ?_
  have hord:=Order_ok m hmb (by omega)
  have hol:=ordT_len m
  generalize (ordT m).1=o at *
  generalize (ordT m).2=oe at *
  ((try revert hK K);(repeat' (first|refine Vc X0 hord ?_|(refine V2 X0 ?_ ?_<;>try with_reducible intro hb)|(refine Xi ?_ ?_<;>try intro ht)|refine VD ?_ ?_|exact Xx|fail))<;>try with_reducible intro K hK)
  refine W_turn (Turns.nil 9 1 (by simp only[Kc,simprocAttr]) (by decide)) ?_
  refine W_loopS (fun z:Nat × Nat × List Int=>(⟨slots [(1,.tree 1 (ints raw)),(5,.ptr 0 0 0),(6,.ptr 1 0 0),(7,.tree 1 (ints o)),(9,.ref 2 1 0 z.2.2.length),(10,.lit (.int .i64 z.1))],[.var [.tree 1 (ints tape),.lit (.int .i64 z.2.1)],.var (eMdl m),.arr 1 (ints z.2.2)]⟩:St))
    (fun z=>z.1≤m.cls.length∧z.2.1≤tape.length∧z.2.2.length≤z.1) (fun z=>m.cls.length - z.1) (0,k,[]) ⟨Nat.zero_le _,hk,Nat.le_refl _⟩ (Xv X0) ?_
  rintro ⟨i,k2,sm⟩ ⟨hi,hk2,hsl⟩ Ql hnl hel
  dsimp only at hi hk2 hsl ⊢
  by_cases hi':i<m.cls.length
  · have h1:=one_ok tape k2 3 (by unfold In64;omega) (by omega) hk2 hL
    have hk3:=nextA_le (L:=tape) (k:=k2) hk2
    generalize nextA tape k2=k3 at *
    generalize oneV tape k2 3=b at *
    cases b
    · ((try revert hK K);(repeat' (first|refine Va @eMdl.eq_1 ?_|(refine V2 @eMdl.eq_1 ?_ ?_<;>try with_reducible intro hb)|(refine Xi ?_ ?_<;>try intro ht)|refine VD ?_ ?_|exact Xx|fail))<;>try with_reducible intro K hK)
      (refine Xn [0] (h1) ?_;simp (disch:=omega) only[Ac,↓Pc,simprocAttr])
      ((try revert hK K);(repeat' (first|refine Va X0 ?_|(refine V2 X0 ?_ ?_<;>try with_reducible intro hb)|(refine Xi ?_ ?_<;>try intro ht)|refine VD ?_ ?_|exact Xx|fail))<;>try with_reducible intro K hK)
      all_goals try (exfalso;omega)
      have e1:([AV.lit (.int .i64 (i:Int))]::ints sm)=ints ((i:Int)::sm):=rfl
      have e2:1+sm.length=((i:Int)::sm).length:=Nat.add_comm _ _
      rw[e1,e2]
      have e3:((i:Int)::sm).length≤i+1:=by simp;omega
      generalize (i:Int)::sm=sm2 at *
      exact hnl _ (i+1,k3,sm2) ⟨by dsimp only;omega,hk3,e3⟩ (by dsimp only;omega) (Xs false [0,1,4] X0)
    · ((try revert hK K);(repeat' (first|refine Va @eMdl.eq_1 ?_|(refine V2 @eMdl.eq_1 ?_ ?_<;>try with_reducible intro hb)|(refine Xi ?_ ?_<;>try intro ht)|refine VD ?_ ?_|exact Xx|fail))<;>try with_reducible intro K hK)
      (refine Xn [0] (h1) ?_;simp (disch:=omega) only[Ac,↓Pc,simprocAttr])
      ((try revert hK K);(repeat' (first|refine Va X0 ?_|(refine V2 X0 ?_ ?_<;>try with_reducible intro hb)|(refine Xi ?_ ?_<;>try intro ht)|refine VD ?_ ?_|exact Xx|fail))<;>try with_reducible intro K hK)
      all_goals try (exfalso;omega)
      exact hnl _ (i+1,k3,sm) ⟨by dsimp only;omega,hk3,by dsimp only;omega⟩ (by dsimp only;omega) (Xv X0)
  · ((try revert hK K);(repeat' (first|refine Va @eMdl.eq_1 ?_|(refine V2 @eMdl.eq_1 ?_ ?_<;>try with_reducible intro hb)|(refine Xi ?_ ?_<;>try intro ht)|refine VD ?_ ?_|exact Xx|fail))<;>try with_reducible intro K hK)
    all_goals try (exfalso;omega)
    refine hel _ _ rfl ?_;clear hnl hel Ql
    repeat (first|refine Xu ?_)
    refine W_turn (Turns.frzS 9 2 1 (rows:=ints sm) rfl (by rw[ints_length];simp only[Kc,simprocAttr]) (ints_wid _) (fun row h v hv=>by
      unfold ints at h
      obtain ⟨x,_,rfl⟩:=List.mem_map.1 h
      exact .inl ⟨_,List.mem_singleton.1 hv⟩)) ?_
    refine W_turn (σ':=⟨slots [(1,.tree 1 (ints raw)),(6,.ptr 0 0 0),(7,.tree 1 (ints o)),(9,.tree 1 (ints sm))],[.var (eMdl m)]⟩) (Xs false [1] X0) ?_
    repeat' (first|((fail_if_success (first|refine W_at 13 ?_|refine W_atE 13 ?_));refine Xr X0 ?_;intro K hK)|refine Xo X0 ?_|(refine hK _ ?_;clear hK K)|(refine Xg X0 ?_ ?_<;>try intro hb)|(refine Xi ?_ ?_<;>try intro ht)|refine Xy ?_|refine Xd ?_ ?_|exact Xx|fail)
    refine W_turn (σ':=⟨slots [(6,.ptr 0 0 0),(52,.tree 1 (intss [raw,o,sm])),(53,.lit (.int .i64 3)),(54,.lit (.int .i64 0))],[.var (eMdl m)]⟩) (Xs true [0] X0) ?_
    have hall:∀ p∈[raw,o,sm],p.length<1000000:=fun p hp=>by
      simp only[List.mem_cons,List.not_mem_nil,or_false] at hp
      rcases hp with rfl | rfl | rfl<;>omega
    generalize hqs:[raw,o,sm]=qs at *
    have hqsl:qs.length=3:=by rw[← hqs];rfl
    refine W_loopS (fun i:Nat=>(⟨slots [(6,.ptr 0 0 0),(52,.tree 1 (intss qs)),(53,.lit (.int .i64 3)),(54,.lit (.int .i64 i))],[.var (eMdl m)]⟩:St)) (fun i=>i≤3) (fun i=>3 - i) 0 (Nat.zero_le _) (Xv X0) ?_
    rintro i hi Ql hnl hel
    by_cases hi':i<3
    · have hpl:=hall _ (getD_mem (l:=qs) (i:=i) (d:=[]) (by omega))
      generalize hpp:qs.getD i []=p at *
      have h1:=Greedy_ok m hmb p hpl
      have h2:=rGreedy_ok m hmb p hpl
      have hlen:=grT_len m p
      generalize grT m p=dv at *
      have h3:=same_ok dv.1 dv.1 (by omega)
      rw[decide_eq_true rfl] at h3
      ((try revert hK K);(repeat' (first|refine Vc (X5 @hpp @bne_self_eq_false.{0} @decide_true @Bool.not_true @beq_self_eq_true.{0}) (X3 h1 h2 h3) ?_|(refine V2 (X5 @hpp @bne_self_eq_false.{0} @decide_true @Bool.not_true @beq_self_eq_true.{0}) ?_ ?_<;>try with_reducible intro hb)|(refine Xi ?_ ?_<;>try intro ht)|refine VD ?_ ?_|exact Xx|fail))<;>try with_reducible intro K hK)
      exact hnl _ (i+1) (by omega) (by omega) (Xs false [0] X0)
    · ((try revert hK K);(repeat' (first|refine Va X0 ?_|(refine V2 X0 ?_ ?_<;>try with_reducible intro hb)|(refine Xi ?_ ?_<;>try intro ht)|refine VD ?_ ?_|exact Xx|fail))<;>try with_reducible intro K hK)
      all_goals try (exfalso;omega)
      refine hel _ _ rfl ?_;clear hnl hel Ql
      repeat (first|refine Xu ?_)
      ((try revert hK K);(repeat' (first|refine Vd X0 awake26_ok ?_|(refine V2 X0 ?_ ?_<;>try with_reducible intro hb)|(refine Xi ?_ ?_<;>try intro ht)|refine VD ?_ ?_|exact Xx|fail))<;>try with_reducible intro K hK)
      exact RetOK_pure' rfl rfl
structure KP (m:Mdl) (p:List Int):Prop where
  pm:PM m p
  low:costP m p<1099511627776
  not:∀ c,c<m.cls.length→p.getD c 0 = -1→∀ k:Nat,k<(m.cls.getD c default).length→1099511627776≤costP m (p.set c (k:Int))
theorem costT_okK {m:Mdl} {plan:List Int} (hm:VM m) (hp:PM m plan):costT m plan=(totalL (rulesV m plan) 0,rulesV m plan,0):=by
  rw[costT,if_neg (by rw[valid_iff.2 hm];simp),if_neg (by rw[pm_planned hp];simp)]
  rfl
theorem keeps_grd {m:Mdl} (hm:VM m):KP m (grdV m (orderV m) (noneV m)) :=
  ⟨grd_pm _ _ (fun c hc=>orderV_mem.1 hc) (noneV_pm m),(grd_keeps hm).1,(grd_keeps hm).2⟩
theorem keeps_sat {m:Mdl} (hm:VM m):KP m (satV m):=⟨satV_pm m,(sat_keeps hm).1,(sat_keeps hm).2⟩
theorem keeps_law (tape:List Int):Holds Tryz.prog 6 [.tree 1 (ints tape)] [] (.lit (.bool true)) []:=by
  refine Holds.of_body' (fn:=Tryz.f6) 133 0 [.tmp 2] Tryz.func6 rfl rfl rfl rfl rfl (by simp) ?_
  repeat' (first|((fail_if_success (first|refine W_at 3 ?_|refine W_atE 3 ?_));refine Xq X0 ?_;intro K hK)|refine Xo X0 ?_|refine Xc (light_ok _) ?_|refine Xc (awake26_ok) ?_|(refine hK _ ?_;clear hK K)|(refine Xg X0 ?_ ?_<;>try intro hb)|(refine Xi ?_ ?_<;>try intro ht)|refine XY ?_|refine Xd ?_ ?_|exact Xx|fail)
  · exact RetOK_pure' rfl rfl
  have hL:tape.length<1000000:=by omega
  have hmod:=model_ok tape 0 5 4 (Nat.zero_le _) hL (by decide) (by decide) (by decide)
  refine W_region_ce 2 (by decide) _ rfl ?_
  intro K hK
  simp (disch:=omega) only[Ac,↓Pc,simprocAttr,List.take,List.drop]
  (refine Xn [] (roll_ok tape) ?_;simp (disch:=omega) only[Ac,↓Pc,simprocAttr])
  unfold dice at hmod
  refine⟨rfl,(show callKR Tryz.prog 22 [.ptr 0 0 0,.lit (.int .i64 (5:Nat)),.lit (.int .i64 (4:Nat))] (some 27) _ _ from ?_)⟩
  refine callKR_sel [0] hmod (by decide) ⟨rfl,trivial⟩ ⟨.eq rfl,.pure rfl,.pure rfl,trivial⟩ ?_
  rintro r os ⟨m,k,hm0,hk,rfl,rfl⟩
  have hm:=hm0.vm
  have hfew:=hm0.few
  simp (disch:=omega) only[Ac,↓Pc,simprocAttr]
  refine hK _ ?_;clear hK K
  repeat (first|refine Xu ?_)
  refine W_turn (Turns.frzP 3 1 (cells:=eMdl m) (by rfl) (by simp only[Kc,simprocAttr]) (by simp[eMdl])) ?_
  refine W_turn (σ':=⟨slots [(3,.taddr (eMdl m))],[]⟩) (Xs false [] X0) ?_
  clear hmod hk k hL hm0
  have hv:=valid_iff.2 hm
  have hrng:rngB m.cls.length (orderV m)=true:=by
    unfold rngB
    rw[List.all_eq_true]
    exact fun x hx=>decide_eq_true (orderV_mem.1 hx)
  have h1:=Order_ok m hm.mb (by omega)
  have h2:=Greedy_ok m hm.mb (orderV m) (by rw[orderV_len];omega)
  have h3:=Saturate_ok m hm.mb
  rw[show ordT m=(orderV m,0) by unfold ordT;rw[if_neg (by rw[hv];simp)]] at h1
  rw[grT_ok hm hrng (orderV_nd m)] at h2
  rw[show satT m=(satV m,0) by unfold satT;rw[if_neg (by rw[hv];simp)]] at h3
  have k1:=keeps_grd hm
  have k2:=keeps_sat hm
  generalize grdV m (orderV m) (noneV m)=p1 at *
  generalize satV m=p2 at *
  generalize orderV m=o at *
  dsimp only at h1 h2 h3
  repeat' (first|((fail_if_success (first|refine W_at 10 ?_|refine W_atE 10 ?_));refine Xq X0 ?_;intro K hK)|refine Xo X0 ?_|refine Xc (h1) ?_|refine Xc (h2) ?_|refine Xc (h3) ?_|(refine hK _ ?_;clear hK K)|(refine Xg X0 ?_ ?_<;>try intro hb)|(refine Xi ?_ ?_<;>try intro ht)|refine Xy ?_|refine Xd ?_ ?_|exact Xx|fail)
  all_goals try (exfalso;omega)
  refine W_turn (σ':=⟨slots [(3,.taddr (eMdl m)),(56,.tree 1 (intss [p1,p2])),(57,.lit (.int .i64 2)),(58,.lit (.int .i64 0))],[]⟩) (Xs true [] X0) ?_
  have hall:∀ p∈[p1,p2],KP m p:=fun p hp=>by
    simp only[List.mem_cons,List.not_mem_nil,or_false] at hp
    rcases hp with rfl | rfl
    · exact k1
    · exact k2
  generalize hqs:[p1,p2]=qs at *
  have hqsl:qs.length=2:=by rw[← hqs];rfl
  clear h1 h2 h3 k1 k2
  refine W_loopS (fun i:Nat=>(⟨slots [(3,.taddr (eMdl m)),(56,.tree 1 (intss qs)),(57,.lit (.int .i64 2)),(58,.lit (.int .i64 i))],[]⟩:St)) (fun i=>i≤2) (fun i=>2 - i) 0 (Nat.zero_le _) (Xv X0) ?_
  rintro i hi Ql hnl hel
  by_cases hi':i<2
  · have hkp:=hall _ (getD_mem (l:=qs) (i:=i) (d:=[]) (by omega))
    generalize hpp:qs.getD i []=p at *
    have hpl:=hkp.pm.len
    have hco:=refCost_ok m p hm.mb (by omega)
    have hbr:=Breaks_ok m p hm.mb (by omega)
    have hch:=fun c o=>refChange_ok m p c o hm.mb (by omega)
    have hlow:=hkp.low
    have hnot:=hkp.not
    rw[costT_okK hm hkp.pm] at hco
    rw[show breaksT m p=(List.replicate p.length 0,0) by unfold breaksT;rw[if_neg (by rw[hv];simp),if_neg (by rw[pm_planned hkp.pm];simp),breaks_zero hm hlow]] at hbr
    unfold costP at hlow
    dsimp only at hco hbr
    generalize totalL (rulesV m p) 0=ct at *
    have hzl:(List.replicate p.length (0:Int)).length=m.cls.length:=by rw[List.length_replicate];exact hpl
    have hz0:∀ c,(List.replicate p.length (0:Int)).getD c 0=0:=fun c=>by
      rw[List.getD_eq_getElem?_getD,List.getElem?_replicate];split<;>rfl
    generalize List.replicate p.length (0:Int)=zs at *
    ((try revert hK K);(repeat' (first|refine Vc (X3 @hpp @eMdl.eq_1 @hpl) (X2 hco hbr) ?_|(refine V2 (X3 @hpp @eMdl.eq_1 @hpl) ?_ ?_<;>try with_reducible intro hb)|(refine Xi ?_ ?_<;>try intro ht)|refine VD ?_ ?_|exact Xx|fail))<;>try with_reducible intro K hK)
    all_goals try (exfalso;omega)
    refine W_loopS (fun c:Nat=>(⟨slots [(3,.taddr (eMdl m)),(11,.tree 1 (ints p)),(15,.tree 1 (ints zs)),(17,.lit (.int .i64 c)),(56,.tree 1 (intss qs)),(57,.lit (.int .i64 2)),(58,.lit (.int .i64 i))],[]⟩:St)) (fun c=>c≤m.cls.length) (fun c=>m.cls.length - c) 0 (Nat.zero_le _) (Xv @hpl) ?_
    rintro c hc Ql2 hnl2 hel2
    by_cases hc':c<m.cls.length
    · have hz:=hz0 c
      have hg:=hkp.pm.get c (by omega)
      have hcg:=fun (k:Nat) (hk:k<(m.cls.getD c default).length)=>chgT_ok (o:=k) hm hkp.pm (c:=c) (by omega) (by omega) (by omega)
      have hl24:=hm.opt _ (getD_mem (l:=m.cls) (i:=c) (d:=default) (by omega))
      have hnc:=hnot c hc'
      generalize hll:m.cls.getD c default=l at *
      generalize hx:p.getD c 0=x at *
      ((try revert hK K);(repeat' (first|refine Va @hz ?_|(refine V2 @hz ?_ ?_<;>try with_reducible intro hb)|(refine Xi ?_ ?_<;>try intro ht)|refine VD ?_ ?_|exact Xx|fail))<;>try with_reducible intro K hK)
      all_goals try (exfalso;omega)
      refine W_loopS (fun k:Nat=>(⟨slots [(3,.taddr (eMdl m)),(11,.tree 1 (ints p)),(15,.tree 1 (ints zs)),(17,.lit (.int .i64 c)),(18,.lit (.int .i64 k)),(56,.tree 1 (intss qs)),(57,.lit (.int .i64 2)),(58,.lit (.int .i64 i))],[]⟩:St)) (fun k=>k≤l.length) (fun k=>l.length - k) 0 (Nat.zero_le _) (Xv X0) ?_
      rintro k hk Ql3 hnl3 hel3
      by_cases hgo:x<0∧k<l.length
      · have h4:=hch c k
        rw[hcg k hgo.2] at h4
        have h5:=hnc (by
          rcases hg with hg | hg
          · exact hg
          · have:=optB_iff.1 hg;omega) k hgo.2
        unfold costP at h5
        generalize totalL (rulesV m (p.set c (k:Int))) 0=cc at *
        dsimp only at h4
        ((try revert hK K);(repeat' (first|refine Vc (X5 @hx @hll @eMdl.eq_1 @eCls.eq_1 @hpl) h4 ?_|(refine V2 (X5 @hx @hll @eMdl.eq_1 @eCls.eq_1 @hpl) ?_ ?_<;>try with_reducible intro hb)|(refine Xi ?_ ?_<;>try intro ht)|refine VD ?_ ?_|exact Xx|fail))<;>try with_reducible intro K hK)
        all_goals try (exfalso;omega)
        exact hnl3 _ (k+1) (by omega) (by omega) (Xv X0)
      · ((try revert hK K);(repeat' (first|refine Va (X5 @hx @hll @eMdl.eq_1 @eCls.eq_1 @hpl) ?_|(refine V2 (X5 @hx @hll @eMdl.eq_1 @eCls.eq_1 @hpl) ?_ ?_<;>try with_reducible intro hb)|(refine Xi ?_ ?_<;>try intro ht)|refine VD ?_ ?_|exact Xx|fail))<;>try with_reducible intro K hK)
        all_goals try (exfalso;omega)
        all_goals
          refine hel3 _ _ rfl ?_
          clear hnl3 hel3
          repeat (first|refine Xu ?_)
          ((try revert hK K);(repeat' (first|refine Va X0 ?_|(refine V2 X0 ?_ ?_<;>try with_reducible intro hb)|(refine Xi ?_ ?_<;>try intro ht)|refine VD ?_ ?_|exact Xx|fail))<;>try with_reducible intro K hK)
          exact hnl2 _ (c+1) (by omega) (by omega) (Xv X0)
    · ((try revert hK K);(repeat' (first|refine Va X0 ?_|(refine V2 X0 ?_ ?_<;>try with_reducible intro hb)|(refine Xi ?_ ?_<;>try intro ht)|refine VD ?_ ?_|exact Xx|fail))<;>try with_reducible intro K hK)
      all_goals try (exfalso;omega)
      refine hel2 _ _ rfl ?_
      clear hnl2 hel2
      repeat (first|refine Xu ?_)
      ((try revert hK K);(repeat' (first|refine Va X0 ?_|(refine V2 X0 ?_ ?_<;>try with_reducible intro hb)|(refine Xi ?_ ?_<;>try intro ht)|refine VD ?_ ?_|exact Xx|fail))<;>try with_reducible intro K hK)
      exact hnl _ (i+1) (by omega) (by omega) (Xv X0)
  · ((try revert hK K);(repeat' (first|refine Va X0 ?_|(refine V2 X0 ?_ ?_<;>try with_reducible intro hb)|(refine Xi ?_ ?_<;>try intro ht)|refine VD ?_ ?_|exact Xx|fail))<;>try with_reducible intro K hK)
    all_goals try (exfalso;omega)
    refine hel _ _ rfl ?_;clear hnl hel Ql
    repeat (first|refine Xu ?_)
    ((try revert hK K);(repeat' (first|refine Vd X0 awake26_ok ?_|(refine V2 X0 ?_ ?_<;>try with_reducible intro hb)|(refine Xi ?_ ?_<;>try intro ht)|refine VD ?_ ?_|exact Xx|fail))<;>try with_reducible intro K hK)
    exact RetOK_pure' rfl rfl
end T

