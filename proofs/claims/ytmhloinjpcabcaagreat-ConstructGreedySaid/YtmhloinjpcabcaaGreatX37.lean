import Derived.Test.YtmhloinjpcabcaaGreatX36
import Derived.Test.YtmhloinjpcabcaaGreatX30
import Derived.Test.YtmhloinjpcabcaaGreatX34
import Derived.Test.YtmhloinjpcabcaaGreatX20
import Derived.Test.YtmhloinjpcabcaaGreatX28
import Derived.Test.YtmhloinjpcabcaaGreatX29
set_option linter.unusedVariables false
set_option linter.unusedSimpArgs false
set_option linter.unnecessarySimpa false
set_option linter.unusedSectionVars false
set_option maxHeartbeats 64000000
set_option maxRecDepth 20000
open Go Go.Am Go.Proofs
open Nat (reduceEqDiff reduceAdd reduceLeDiff reduceMul)
open Int (reduceNeg reduceLE reduceToNat)
namespace T
theorem prCut_ok (n:Int):Holds Tryz.prog 106 [.lit (.int .i64 n)] [] (.lit (.int .i64 (min n 1099511627776))) []:=by
  refine Holds.of_body' (fn:=Tryz.f106) 5 0 [.tmp 2] Tryz.func106 rfl rfl rfl rfl rfl (by simp) ?_
  refine Vb X0 ?_
  exact RetOK_pure' rfl rfl
theorem prTimes_ok (n pen:Int) (hn:0≤n∧n≤1048576) (hp:priceB pen=true):Holds Tryz.prog 107 [.lit (.int .i64 n),.lit (.int .i64 pen)] [] (.lit (.int .i64 (timesP n pen))) []:=by
  have hpi:=price_in hp
  unfold priceB at hp
  unfold In41 at hpi
  rw[decide_eq_true_eq] at hp
  generalize hres:timesP n pen=res
  unfold timesP at hres
  have hmul:¬(0<n∧pen=1099511627776)→0≤n * pen∧n * pen≤1099511627776:=fun h=>by
    rcases Int.lt_or_eq_of_le hn.1 with h0 | h0
    · have:n * pen≤1048576 * 1048576:=Int.mul_le_mul hn.2 (by omega) (by omega) (by omega)
      have:=Int.mul_nonneg hn.1 hpi.1
      omega
    · rw[← h0];simp
  generalize hnp:n * pen=np at *
  have hcut:=prCut_ok np
  refine Holds.of_body' (fn:=Tryz.f107) 15 0 [.tmp 4] Tryz.func107 rfl rfl rfl rfl rfl (by simp) ?_
  by_cases h:0<n∧pen=1099511627776
  · rw[if_pos h] at hres
    ((repeat' (first|refine Vb X0 ?_|(refine V2 X0 ?_ ?_<;>try with_reducible intro hb)|(refine Xi ?_ ?_<;>try intro ht)|exact Xx|fail)))
    all_goals exact RetOK_pure' rfl (by rw[hres])
  · rw[if_neg h] at hres
    have hmul:=hmul h
    ((repeat' (first|refine Vd @hnp hcut ?_|(refine V2 @hnp ?_ ?_<;>try with_reducible intro hb)|(refine Xi ?_ ?_<;>try intro ht)|exact Xx|fail)))
    all_goals exact RetOK_pure' rfl (by rw[hres])
theorem prEntry_ok (m:Mdl) (p:Pr) (x y:Int) (hpb:pairB m p=true) (h24:∀ l∈m.cls,l.length≤24) (hx:0≤x∧x<(m.cls.getD p.fst.toNat default).length) (hy:0≤y∧y<(m.cls.getD p.snd.toNat default).length) :
    Holds Tryz.prog 57 [.agg (eMdl m),.agg (ePr p),.lit (.int .i64 x),.lit (.int .i64 y)] [] (.lit (.int .i64 (entryV m p x y))) []:=by
  obtain ⟨q1,q2,q3,q4,q5⟩:=pairB_iff hpb
  have hla:=h24 _ (getD_mem (l:=m.cls) (i:=p.fst.toNat) (d:=default) (by omega))
  have hlb:=h24 _ (getD_mem (l:=m.cls) (i:=p.snd.toNat) (d:=default) (by omega))
  have hidx:=entry_idx (x:=x) (y:=y) (a:=(m.cls.getD p.fst.toNat default).length) (b:=(m.cls.getD p.snd.toNat default).length) hx hy (by omega) (by omega)
  unfold entryV
  rw[← q5] at hidx
  generalize hbb:m.cls.getD p.snd.toNat default=lb at *
  generalize hxm:x * (lb.length:Int)=xm at *
  refine Holds.of_body' (fn:=Tryz.f57) 24 0 [.tmp 8] Tryz.func57 rfl rfl rfl rfl rfl (by simp) ?_
  refine Vb (X2 @hbb @hxm) ?_
  exact RetOK_pure' rfl rfl
theorem free1_ok (c:Int × Int):Holds Tryz.prog 89 [.agg (eCh c)] [] (.lit (.bool (decide (c.2=1099511627776)))) []:=by
  refine Holds.of_body' (fn:=Tryz.f89) 6 0 [.tmp 2] Tryz.func89 rfl rfl rfl rfl rfl (by simp) ?_
  ((try revert hK K);(repeat' (first|refine Vb @eCh.eq_1 ?_|(refine V2 @eCh.eq_1 ?_ ?_<;>try with_reducible intro hb)|(refine Xi ?_ ?_<;>try intro ht)|refine VD ?_ ?_|exact Xx|fail))<;>try with_reducible intro K hK)
  exact RetOK_pure' rfl rfl
theorem wFree_ok (o:Opt) (ho:o.ch.length<9223372036854775808):Holds Tryz.prog 42 [.agg (eOpt o)] [] (.lit (.bool (freeB o))) []:=by
  have h:=containsChg_ok o.ch 89 [] [] (fun c=>decide (c.2=1099511627776)) ho (fun x _=>free1_ok x)
  unfold freeB
  generalize (o.ch.any fun c=>decide (c.2=1099511627776))=b at *
  refine Holds.of_body' (fn:=Tryz.f42) 7 0 [.tmp 2] Tryz.func42 rfl rfl rfl rfl rfl (by simp) ?_
  ((try revert hK K);(repeat' (first|refine Vd @eOpt.eq_1 h ?_|(refine V2 @eOpt.eq_1 ?_ ?_<;>try with_reducible intro hb)|(refine Xi ?_ ?_<;>try intro ht)|refine VD ?_ ?_|exact Xx|fail))<;>try with_reducible intro K hK)
  all_goals exact RetOK_pure' rfl (by simp[*])
theorem wHard_ok (c:Ct):Holds Tryz.prog 58 [.agg (eCt c)] [] (.lit (.bool (hardB c))) []:=by
  refine Holds.of_body' (fn:=Tryz.f58) 6 0 [.tmp 2] Tryz.func58 rfl rfl rfl rfl rfl (by simp) ?_
  ((try revert hK K);(repeat' (first|refine Vb @eCt.eq_1 ?_|(refine V2 @eCt.eq_1 ?_ ?_<;>try with_reducible intro hb)|(refine Xi ?_ ?_<;>try intro ht)|refine VD ?_ ?_|exact Xx|fail))<;>try with_reducible intro K hK)
  exact RetOK_pure' rfl rfl
theorem isPlan_ok (m:Mdl) (plan:List Int) (hb:MB m) (hp:plan.length<9223372036854775808):Holds Tryz.prog 56 [.agg (eMdl m),.tree 1 (ints plan)] [] (.lit (.bool (plannedV m plan))) []:=by
  generalize hres:plannedV m plan=res
  unfold plannedV at hres
  have hmb:=hb.cls
  refine Holds.of_body' (fn:=Tryz.f56) 33 0 [.tmp 4] Tryz.func56 rfl rfl rfl rfl rfl (by simp) ?_
  ((try revert hK K);(repeat' (first|refine Vb X0 ?_|(refine V2 X0 ?_ ?_<;>try with_reducible intro hb)|(refine Xi ?_ ?_<;>try intro ht)|refine VD ?_ ?_|exact Xx|fail))<;>try with_reducible intro K hK)
  · rw[if_pos (by omega)] at hres
    exact RetOK_pure' rfl (by rw[← hres])
  rw[if_neg (by omega)] at hres
  refine W_loopS (fun k:Nat=>(⟨slots [(2,.ptr 0 0 0),(13,.tree 1 (ints plan)),(14,.lit (.int .i64 plan.length)),(15,.lit (.int .i64 k))],[.var (eMdl m)]⟩:St)) (fun k=>k≤plan.length∧planL m k (plan.drop k)=res) (fun k=>plan.length - k) 0 ⟨Nat.zero_le _,hres⟩ (Xv X0) ?_
  rintro k ⟨hk,hr⟩ Ql hnl hel
  by_cases hk':k<plan.length
  · have hd:=getD_drop0 plan k 0 hk'
    have hl:=hb.opt _ (getD_mem (l:=m.cls) (i:=k) (d:=default) (by omega))
    generalize hcc:plan.getD k 0=o at *
    rw[hd,planL] at hr
    by_cases hok:o = -1∨optB m (k:Nat) o=true
    · have h1:(decide (o = -1) || optB m (k:Nat) o)=true:=by
        rcases hok with h | h<;>simp[h]
      rw[h1,Bool.true_and] at hr
      have h2:¬ (o < -1)∧¬ ((m.cls.getD k default).length≤o):=by
        rcases hok with h | h
        · omega
        · obtain ⟨a1,a2,a3,a4⟩:=optB_iff.1 h
          rw[Int.toNat_natCast] at a4;omega
      generalize hll:m.cls.getD k default=l at *
      ((try revert hK K);(repeat' (first|refine Va (X3 @hcc @hll @eCls.eq_1) ?_|(refine V2 (X3 @hcc @hll @eCls.eq_1) ?_ ?_<;>try with_reducible intro hb)|(refine Xi ?_ ?_<;>try intro ht)|refine VD ?_ ?_|exact Xx|fail))<;>try with_reducible intro K hK)
      all_goals try (exfalso;omega)
      all_goals exact hnl _ (k+1) ⟨by omega,hr⟩ (by omega) (Xv X0)
    · have h1:(decide (o = -1) || optB m (k:Nat) o)=false:=by
        rw[Bool.or_eq_false_iff]
        constructor
        · rw[decide_eq_false_iff_not];omega
        · rw[Bool.eq_false_iff];exact fun h=>hok (.inr h)
      rw[h1,Bool.false_and] at hr
      have h2:o < -1∨((m.cls.getD k default).length≤o):=by
        rcases Int.lt_or_le o (-1) with h | h
        · exact .inl h
        · refine .inr (Int.not_lt.1 fun hh=>hok (.inr (optB_iff.2 ⟨by omega,by omega,by omega,by rw[Int.toNat_natCast];exact hh⟩)))
      generalize hll:m.cls.getD k default=l at *
      ((try revert hK K);(repeat' (first|refine Va (X3 @hcc @hll @eCls.eq_1) ?_|(refine V2 (X3 @hcc @hll @eCls.eq_1) ?_ ?_<;>try with_reducible intro hb)|(refine Xi ?_ ?_<;>try intro ht)|refine VD ?_ ?_|exact Xx|fail))<;>try with_reducible intro K hK)
      all_goals try (exfalso;omega)
      all_goals
        repeat (first|refine Xu ?_|(refine hel2 _ _ rfl ?_;clear hnl2 hel2;try clear Ql2)|(refine hel3 _ _ rfl ?_;clear hnl3 hel3;try clear Ql3)|(refine hel4 _ _ rfl ?_;clear hnl4 hel4;try clear Ql4))
        ((try revert hK K);(repeat' (first|refine Vb X0 ?_|(refine V2 X0 ?_ ?_<;>try with_reducible intro hb)|(refine Xi ?_ ?_<;>try intro ht)|refine VD ?_ ?_|exact Xx|fail))<;>try with_reducible intro K hK)
        exact RetOK_pure' rfl (by rw[← hr])
  · rw[List.drop_eq_nil_of_le (by omega),planL] at hr
    ((try revert hK K);(repeat' (first|refine Va X0 ?_|(refine V2 X0 ?_ ?_<;>try with_reducible intro hb)|(refine Xi ?_ ?_<;>try intro ht)|refine VD ?_ ?_|exact Xx|fail))<;>try with_reducible intro K hK)
    refine hel _ _ rfl ?_;clear hnl hel Ql
    repeat (first|refine Xu ?_)
    ((try revert hK K);(repeat' (first|refine Vb X0 ?_|(refine V2 X0 ?_ ?_<;>try with_reducible intro hb)|(refine Xi ?_ ?_<;>try intro ht)|refine VD ?_ ?_|exact Xx|fail))<;>try with_reducible intro K hK)
    exact RetOK_pure' rfl (by rw[← hr])
theorem none_set {n k:Nat} (h:k<n):ints ((List.replicate k (-1:Int)++List.replicate (n - k) 0).set k (-1))=ints (List.replicate (k+1) (-1:Int)++List.replicate (n - (k+1)) 0):=by
  congr 1
  rw[List.set_append_right _ _ (by simp),List.length_replicate,Nat.sub_self,show n - k=(n - (k+1))+1 by omega,List.replicate_succ,List.set_cons_zero,List.replicate_succ',List.append_assoc]
  rfl
theorem none_ok (m:Mdl) (hm:VM m):Holds Tryz.prog 49 [.agg (eMdl m)] [] (.ref 0 1 0 m.cls.length) [.arr 1 (ints (noneV m))]:=by
  have hc24:=hm.cls
  unfold noneV
  refine Holds.of_body' (fn:=Tryz.f49) 19 0 [.tmp 2] Tryz.func49 rfl rfl rfl rfl rfl (by simp) ?_
  ((try revert hK K);(repeat' (first|refine Vb X0 ?_|(refine V2 X0 ?_ ?_<;>try with_reducible intro hb)|(refine Xi ?_ ?_<;>try intro ht)|refine VD ?_ ?_|exact Xx|fail))<;>try with_reducible intro K hK)
  refine W_loopS (fun k:Nat=>(⟨slots [(3,.ref 0 1 0 m.cls.length),(9,.ref 0 1 0 m.cls.length),(10,.lit (.int .i64 m.cls.length)),(11,.lit (.int .i64 k))],[.arr 1 (ints (List.replicate k (-1:Int)++List.replicate (m.cls.length - k) 0))]⟩:St)) (fun k=>k≤m.cls.length) (fun k=>m.cls.length - k) 0 (Nat.zero_le _) (Xs false [1] (X3 @Nat.sub_zero @List.replicate_zero.{0} @List.nil_append.{0})) ?_
  rintro k hk Ql hnl hel
  by_cases hk':k<m.cls.length
  · have hs:=none_set hk'
    have hlen:(List.replicate k (-1:Int)++List.replicate (m.cls.length - k) 0).length=m.cls.length:=by simp;omega
    generalize List.replicate k (-1:Int)++List.replicate (m.cls.length - k) 0=xs at *
    ((try revert hK K);(repeat' (first|refine Va (X2 @ints_set @hlen) ?_|(refine V2 (X2 @ints_set @hlen) ?_ ?_<;>try with_reducible intro hb)|(refine Xi ?_ ?_<;>try intro ht)|refine VD ?_ ?_|exact Xx|fail))<;>try with_reducible intro K hK)
    exact hnl _ (k+1) (by omega) (by omega) (by rw[← hs];exact Xv X0)
  · obtain rfl:k=m.cls.length:=by omega
    rw[Nat.sub_self,List.replicate_zero,List.append_nil]
    ((try revert hK K);(repeat' (first|refine Va X0 ?_|(refine V2 X0 ?_ ?_<;>try with_reducible intro hb)|(refine Xi ?_ ?_<;>try intro ht)|refine VD ?_ ?_|exact Xx|fail))<;>try with_reducible intro K hK)
    refine hel _ _ rfl ?_;clear hnl hel Ql
    repeat (first|refine Xu ?_)
    ((try revert hK K);(repeat' (first|refine Vb X0 ?_|(refine V2 X0 ?_ ?_<;>try with_reducible intro hb)|(refine Xi ?_ ?_<;>try intro ht)|refine VD ?_ ?_|exact Xx|fail))<;>try with_reducible intro K hK)
    exact Xw true [0] X0
theorem prExc_ok (m:Mdl) (plan:List Int) (c:Ct) (hm:VM m) (hpl:plan.length=m.cls.length) (hc:ctB m c=true):Holds Tryz.prog 59 [.agg (eCt c),.tree 1 (ints plan)] [] (.lit (.int .i64 (excN plan c))) []:=by
  obtain ⟨q1,q2,q3,q4⟩:=ctB_iff hc
  have hlen:=ldL_len0 hm q4
  generalize hres:excN plan c=res
  unfold excN at hres
  generalize hsum:loadS plan c.loads 0=sum at *
  refine Holds.of_body' (fn:=Tryz.f59) 33 0 [.tmp 4] Tryz.func59 rfl rfl rfl rfl rfl (by simp) ?_
  ((try revert hK K);(repeat' (first|refine Vb X0 ?_|(refine V2 X0 ?_ ?_<;>try with_reducible intro hb)|(refine Xi ?_ ?_<;>try intro ht)|refine VD ?_ ?_|exact Xx|fail))<;>try with_reducible intro K hK)
  refine W_loopS (fun z:Nat × Int=>(⟨slots [(1,.tree 1 (ints plan)),(2,.ptr 0 0 0),(5,.lit (.int .i64 z.2)),(9,.tree 3 (rowsOf eLd c.loads)),(10,.lit (.int .i64 c.loads.length)),(11,.lit (.int .i64 z.1))],[.var (eCt c)]⟩:St))
    (fun z=>z.1≤c.loads.length∧0≤z.2∧z.2≤1000 * z.1∧loadS plan (c.loads.drop z.1) z.2=sum) (fun z=>c.loads.length - z.1) (0,0) ⟨Nat.zero_le _,Int.le_refl _,by dsimp only;omega,hsum⟩ (Xv X0) ?_
  rintro ⟨j,n⟩ ⟨hj,hn0,hn1,hr3⟩ Ql hnl hel
  dsimp only at hj hn0 hn1 hr3 ⊢
  by_cases hj':j<c.loads.length
  · have hd3:=getD_drop0 c.loads j default hj'
    have hlm:=ldL_mem q4 _ (getD_mem (d:=default) hj')
    generalize hcj:c.loads.getD j default=x at *
    rw[hd3,loadS] at hr3
    obtain ⟨b1,b2,b3,b4⟩:=optB_iff.1 hlm.1
    have hlw:=hlm.2
    generalize hpx:plan.getD x.cls.toNat 0=px at *
    ((try revert hK K);(repeat' (first|refine Va (X2 @hcj @hpx) ?_|(refine V2 (X2 @hcj @hpx) ?_ ?_<;>try with_reducible intro hb)|(refine Xi ?_ ?_<;>try intro ht)|refine VD ?_ ?_|exact Xx|fail))<;>try with_reducible intro K hK)
    all_goals try (exfalso;omega)
    · rw[if_pos (by assumption)] at hr3
      exact hnl _ (j+1,n+x.wt) ⟨by dsimp only;omega,by dsimp only;omega,by dsimp only;omega,hr3⟩ (by dsimp only;omega) (Xs false [0] X0)
    · rw[if_neg (by assumption)] at hr3
      exact hnl _ (j+1,n) ⟨by dsimp only;omega,by dsimp only;omega,by dsimp only;omega,hr3⟩ (by dsimp only;omega) (Xs false [0] X0)
  · ((try revert hK K);(repeat' (first|refine Va X0 ?_|(refine V2 X0 ?_ ?_<;>try with_reducible intro hb)|(refine Xi ?_ ?_<;>try intro ht)|refine VD ?_ ?_|exact Xx|fail))<;>try with_reducible intro K hK)
    rw[List.drop_eq_nil_of_le (by omega),loadS] at hr3
    rw[← hr3] at hres
    refine hel _ _ rfl ?_;clear hnl hel Ql
    repeat (first|refine Xu ?_)
    ((try revert hK K);(repeat' (first|refine Vb X0 ?_|(refine V2 X0 ?_ ?_<;>try with_reducible intro hb)|(refine Xi ?_ ?_<;>try intro ht)|refine VD ?_ ?_|exact Xx|fail))<;>try with_reducible intro K hK)
    exact RetOK_pure' rfl (by rw[hres])
theorem timesP_V {n pen:Int} (hn:0≤n) (hp:priceB pen=true):timesP n pen=timesV n pen:=by
  unfold priceB at hp
  rw[decide_eq_true_eq] at hp
  unfold timesP timesV
  by_cases h0:n≤0
  · obtain rfl:n=0:=by omega
    rw[if_neg (by omega),if_pos (by omega),Int.zero_mul];rfl
  · rw[if_neg h0]
    by_cases hF:pen=1099511627776
    · rw[if_pos ⟨by omega,hF⟩,if_pos (by omega)]
    · rw[if_neg (by omega),if_neg (by omega)]
theorem total_ok (m:Mdl) (plan:List Int) (hm:VM m) (hp:PM m plan):Holds Tryz.prog 74 [.agg (eMdl m),.tree 1 (ints plan)] [] (.lit (.int .i64 (totW m plan))) []:=by
  have hm1:=hm.cls
  have hm2:=hm.prs
  have hm3:=hm.cts
  have hpl:=hp.len
  have hadd:∀ s d:Int,Holds Tryz.prog 106 [.lit (.int .i64 (s+d))] [] (.lit (.int .i64 (addC s d))) []:=fun s d=>prCut_ok (s+d)
  generalize hres:totW m plan=res
  unfold totW at hres
  generalize h1:tPlan m 0 plan 0=s1 at hres
  generalize h2:tPrs m plan m.prs s1=s2 at hres
  refine Holds.of_body' (fn:=Tryz.f74) 100 0 [.tmp 4] Tryz.func74 rfl rfl rfl rfl rfl (by simp) ?_
  ((try revert hK K);(repeat' (first|refine Vb X0 ?_|(refine V2 X0 ?_ ?_<;>try with_reducible intro hb)|(refine Xi ?_ ?_<;>try intro ht)|refine VD ?_ ?_|exact Xx|fail))<;>try with_reducible intro K hK)
  refine W_loopS (fun z:Nat × Int=>(⟨slots [(1,.tree 1 (ints plan)),(2,.ptr 0 0 0),(5,.lit (.int .i64 z.2)),(14,.tree 1 (ints plan)),(15,.lit (.int .i64 plan.length)),(16,.lit (.int .i64 z.1))],[.var (eMdl m)]⟩:St))
    (fun z=>z.1≤plan.length∧In41 z.2∧tPlan m z.1 (plan.drop z.1) z.2=s1) (fun z=>plan.length - z.1) (0,0) ⟨Nat.zero_le _,by unfold In41;decide,h1⟩ (Xv X0) ?_
  rintro ⟨k,s⟩ ⟨hk,hs,hr⟩ Ql hnl hel
  dsimp only at hk hs hr ⊢
  by_cases hk':k<plan.length
  · have hd:=getD_drop0 plan k 0 hk'
    have hget:=hp.get k hk'
    generalize hcc:plan.getD k 0=o at *
    rw[hd,tPlan] at hr
    by_cases ho:o<0
    · rw[if_pos ho] at hr
      ((try revert hK K);(repeat' (first|refine Va @hcc ?_|(refine V2 @hcc ?_ ?_<;>try with_reducible intro hb)|(refine Xi ?_ ?_<;>try intro ht)|refine VD ?_ ?_|exact Xx|fail))<;>try with_reducible intro K hK)
      all_goals try (exfalso;omega)
      exact hnl _ (k+1,s) ⟨by dsimp only;omega,hs,hr⟩ (by dsimp only;omega) (Xv X0)
    · rw[if_neg ho] at hr
      obtain ⟨b1,b2,b3,b4⟩:=optB_iff.1 (hget.resolve_left (by omega))
      have hl:=getD_mem (l:=m.cls) (i:=k) (d:=default) (by omega)
      have hchs:=chsW_in hm k o.toNat
      generalize hll:m.cls.getD k default=l at *
      rw[Int.toNat_natCast,hll] at b4
      have hol2:=getD_mem (l:=l) (i:=o.toNat) (d:=default) (by omega)
      have hch:=hm.chs l hl _ hol2
      generalize hoo:l.getD o.toNat default=op at *
      generalize hfin:tCh op.ch s=s' at hr
      have hcl:=chL_len0 hm.rul.1 hch
      have hrul:=hm.rul.2
      ((try revert hK K);(repeat' (first|refine Va (X3 @hcc @hll @hoo) ?_|(refine V2 (X3 @hcc @hll @hoo) ?_ ?_<;>try with_reducible intro hb)|(refine Xi ?_ ?_<;>try intro ht)|refine VD ?_ ?_|exact Xx|fail))<;>try with_reducible intro K hK)
      all_goals try (exfalso;omega)
      refine W_loopS (fun z:Nat × Int=>(⟨slots [(1,.tree 1 (ints plan)),(2,.ptr 0 0 0),(5,.lit (.int .i64 z.2)),(14,.tree 1 (ints plan)),(15,.lit (.int .i64 plan.length)),(16,.lit (.int .i64 k)),(31,.tree 2 (rowsOf eCh op.ch)),(32,.lit (.int .i64 op.ch.length)),(33,.lit (.int .i64 z.1))],[.var (eMdl m)]⟩:St))
        (fun z=>z.1≤op.ch.length∧In41 z.2∧tCh (op.ch.drop z.1) z.2=s') (fun z=>op.ch.length - z.1) (0,s) ⟨Nat.zero_le _,hs,hfin⟩ (Xv X0) ?_
      rintro ⟨j,n⟩ ⟨hj,hn,hr3⟩ Ql2 hnl2 hel2
      dsimp only at hj hn hr3 ⊢
      by_cases hj':j<op.ch.length
      · have hd3:=getD_drop0 op.ch j default hj'
        have hcm:=hchs _ (getD_mem (d:=default) hj')
        generalize hcj:op.ch.getD j default=c at *
        rw[hd3] at hr3
        have hin:=addC_in hn (price_in hcm.2)
        have hcall:=hadd n c.2
        have hci:=price_in hcm.2
        have hn0:=hn
        unfold In41 at hn0 hci
        ((try revert hK K);(repeat' (first|refine Vc (X2 @hcj @eCh.eq_1) hcall ?_|(refine V2 (X2 @hcj @eCh.eq_1) ?_ ?_<;>try with_reducible intro hb)|(refine Xi ?_ ?_<;>try intro ht)|refine VD ?_ ?_|exact Xx|fail))<;>try with_reducible intro K hK)
        all_goals try (exfalso;omega)
        exact hnl2 _ (j+1,addC n c.2) ⟨by dsimp only;omega,hin,hr3⟩ (by dsimp only;omega) (Xs false [0] X0)
      · ((try revert hK K);(repeat' (first|refine Va X0 ?_|(refine V2 X0 ?_ ?_<;>try with_reducible intro hb)|(refine Xi ?_ ?_<;>try intro ht)|refine VD ?_ ?_|exact Xx|fail))<;>try with_reducible intro K hK)
        rw[List.drop_eq_nil_of_le (by omega)] at hr3
        obtain rfl:n=s':=hr3
        refine hel2 _ _ rfl ?_
        clear hnl2 hel2
        repeat (first|refine Xu ?_)
        ((try revert hK K);(repeat' (first|refine Va X0 ?_|(refine V2 X0 ?_ ?_<;>try with_reducible intro hb)|(refine Xi ?_ ?_<;>try intro ht)|refine VD ?_ ?_|exact Xx|fail))<;>try with_reducible intro K hK)
        exact hnl _ (k+1,n) ⟨by dsimp only;omega,hn,hr⟩ (by dsimp only;omega) (Xv X0)
  · rw[List.drop_eq_nil_of_le (by omega),tPlan] at hr
    subst hr
    ((try revert hK K);(repeat' (first|refine Va X0 ?_|(refine V2 X0 ?_ ?_<;>try with_reducible intro hb)|(refine Xi ?_ ?_<;>try intro ht)|refine VD ?_ ?_|exact Xx|fail))<;>try with_reducible intro K hK)
    refine hel _ _ rfl ?_;clear hnl hel Ql
    repeat (first|refine Xu ?_)
    clear hk' hk h1
    ((try revert hK K);(repeat' (first|refine Vb X0 ?_|(refine V2 X0 ?_ ?_<;>try with_reducible intro hb)|(refine Xi ?_ ?_<;>try intro ht)|refine VD ?_ ?_|exact Xx|fail))<;>try with_reducible intro K hK)
    refine W_loopS (fun z:Nat × Int=>(⟨slots [(1,.tree 1 (ints plan)),(2,.ptr 0 0 0),(5,.lit (.int .i64 z.2)),(45,.tree 4 (rowsOf ePr m.prs)),(46,.lit (.int .i64 m.prs.length)),(47,.lit (.int .i64 z.1))],[.var (eMdl m)]⟩:St))
      (fun z=>z.1≤m.prs.length∧In41 z.2∧tPrs m plan (m.prs.drop z.1) z.2=s2) (fun z=>m.prs.length - z.1) (0,s) ⟨Nat.zero_le _,hs,h2⟩ (Xv X0) ?_
    clear hs h2 s
    rintro ⟨k,s⟩ ⟨hk,hs,hr⟩ Ql hnl hel
    dsimp only at hk hs hr ⊢
    by_cases hk':k<m.prs.length
    · have hd:=getD_drop0 m.prs k default hk'
      have hpb:=prsL_mem hm.pr _ (getD_mem (d:=default) hk')
      generalize hcc:m.prs.getD k default=p at *
      rw[hd,tPrs] at hr
      obtain ⟨q1,q2,q3,q4,q5⟩:=pairB_iff hpb
      have g1:=hp.get p.fst.toNat (by omega)
      have g2:=hp.get p.snd.toNat (by omega)
      rw[Int.toNat_of_nonneg (by omega)] at g1 g2
      have hent:=entry_in hpb (plan.getD p.fst.toNat 0) (plan.getD p.snd.toNat 0)
      have hcall:=prEntry_ok m p (plan.getD p.fst.toNat 0) (plan.getD p.snd.toNat 0) hpb hm.opt
      generalize hx:plan.getD p.fst.toNat 0=x at *
      generalize hy:plan.getD p.snd.toNat 0=y at *
      by_cases hxy:0≤x∧0≤y
      · rw[if_pos hxy] at hr
        have a1:=(optB_iff.1 (g1.resolve_left (by omega)))
        have a2:=(optB_iff.1 (g2.resolve_left (by omega)))
        have hcall:=hcall ⟨a1.2.2.1,a1.2.2.2⟩ ⟨a2.2.2.1,a2.2.2.2⟩
        generalize entryV m p x y=e at *
        have hcut:=hadd s e
        have hin:=addC_in hs hent
        have hs0:=hs
        unfold In41 at hs0 hent
        ((try revert hK K);(repeat' (first|refine Vc (X3 @hcc @hx @hy) (X2 hcall hcut) ?_|(refine V2 (X3 @hcc @hx @hy) ?_ ?_<;>try with_reducible intro hb)|(refine Xi ?_ ?_<;>try intro ht)|refine VD ?_ ?_|exact Xx|fail))<;>try with_reducible intro K hK)
        all_goals try (exfalso;omega)
        exact hnl _ (k+1,addC s e) ⟨by dsimp only;omega,hin,hr⟩ (by dsimp only;omega) (Xs false [0] X0)
      · rw[if_neg hxy] at hr
        ((try revert hK K);(repeat' (first|refine Va (X3 @hcc @hx @hy) ?_|(refine V2 (X3 @hcc @hx @hy) ?_ ?_<;>try with_reducible intro hb)|(refine Xi ?_ ?_<;>try intro ht)|refine VD ?_ ?_|exact Xx|fail))<;>try with_reducible intro K hK)
        all_goals try (exfalso;omega)
        all_goals exact hnl _ (k+1,s) ⟨by dsimp only;omega,hs,hr⟩ (by dsimp only;omega) (Xs false [0] X0)
    · rw[List.drop_eq_nil_of_le (by omega),tPrs] at hr
      subst hr
      ((try revert hK K);(repeat' (first|refine Va X0 ?_|(refine V2 X0 ?_ ?_<;>try with_reducible intro hb)|(refine Xi ?_ ?_<;>try intro ht)|refine VD ?_ ?_|exact Xx|fail))<;>try with_reducible intro K hK)
      refine hel _ _ rfl ?_;clear hnl hel Ql
      repeat (first|refine Xu ?_)
      clear hk' hk
      ((try revert hK K);(repeat' (first|refine Vb X0 ?_|(refine V2 X0 ?_ ?_<;>try with_reducible intro hb)|(refine Xi ?_ ?_<;>try intro ht)|refine VD ?_ ?_|exact Xx|fail))<;>try with_reducible intro K hK)
      refine W_loopS (fun z:Nat × Int=>(⟨slots [(1,.tree 1 (ints plan)),(2,.ptr 0 0 0),(5,.lit (.int .i64 z.2)),(83,.tree 4 (rowsOf eCt m.cts)),(84,.lit (.int .i64 m.cts.length)),(85,.lit (.int .i64 z.1))],[.var (eMdl m)]⟩:St))
        (fun z=>z.1≤m.cts.length∧In41 z.2∧tCts plan (m.cts.drop z.1) z.2=res) (fun z=>m.cts.length - z.1) (0,s) ⟨Nat.zero_le _,hs,hres⟩ (Xv X0) ?_
      clear hs hres s
      rintro ⟨k,s⟩ ⟨hk,hs,hr⟩ Ql hnl hel
      dsimp only at hk hs hr ⊢
      by_cases hk':k<m.cts.length
      · have hd:=getD_drop0 m.cts k default hk'
        have hcb:=hm.ct _ (getD_mem (d:=default) hk')
        generalize hcc:m.cts.getD k default=c at *
        rw[hd,tCts] at hr
        obtain ⟨q1,q2,q3,q4⟩:=ctB_iff hcb
        have hexc:=prExc_ok m plan c hm hpl hcb
        have hlen:=ldL_len0 hm q4
        have hrange:=loadS_range (m:=m) (plan:=plan) (fun x hx=>(ldL_mem q4 x hx).2) 0
        have hti:=exc_times (plan:=plan) q3
        have hei:=excV_in (most:=c.most) (sum:=loadS plan c.loads 0) (price_in q3)
        rw[← hti] at hei
        have hnr:0≤excN plan c∧excN plan c≤1048576:=by unfold excN;omega
        have htm:=prTimes_ok (excN plan c) c.pen hnr q3
        rw[timesP_V hnr.1 q3] at htm
        generalize excN plan c=n at *
        generalize timesV n c.pen=t at *
        have hcut:=hadd s t
        have hin:=addC_in hs hei
        have hs0:=hs
        unfold In41 at hs0 hei
        ((try revert hK K);(repeat' (first|refine Vc @hcc (X3 hexc htm hcut) ?_|(refine V2 @hcc ?_ ?_<;>try with_reducible intro hb)|(refine Xi ?_ ?_<;>try intro ht)|refine VD ?_ ?_|exact Xx|fail))<;>try with_reducible intro K hK)
        all_goals try (exfalso;omega)
        exact hnl _ (k+1,addC s t) ⟨by dsimp only;omega,hin,hr⟩ (by dsimp only;omega) (Xs false [0] X0)
      · rw[List.drop_eq_nil_of_le (by omega),tCts] at hr
        subst hr
        ((try revert hK K);(repeat' (first|refine Va X0 ?_|(refine V2 X0 ?_ ?_<;>try with_reducible intro hb)|(refine Xi ?_ ?_<;>try intro ht)|refine VD ?_ ?_|exact Xx|fail))<;>try with_reducible intro K hK)
        refine hel _ _ rfl ?_;clear hnl hel Ql
        repeat (first|refine Xu ?_)
        ((try revert hK K);(repeat' (first|refine Vb X0 ?_|(refine V2 X0 ?_ ?_<;>try with_reducible intro hb)|(refine Xi ?_ ?_<;>try intro ht)|refine VD ?_ ?_|exact Xx|fail))<;>try with_reducible intro K hK)
        exact RetOK_pure' rfl rfl
end T

