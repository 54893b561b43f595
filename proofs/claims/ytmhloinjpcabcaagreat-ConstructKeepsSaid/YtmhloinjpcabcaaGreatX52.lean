import Derived.Test.YtmhloinjpcabcaaGreatX45
import Derived.Test.YtmhloinjpcabcaaGreatX42
import Derived.Test.YtmhloinjpcabcaaGreatX39
set_option linter.unusedVariables false
set_option linter.unusedSimpArgs false
set_option linter.unnecessarySimpa false
set_option linter.unusedSectionVars false
set_option maxHeartbeats 64000000
set_option maxRecDepth 20000
open Go Go.Am Go.Proofs
open Nat (reduceEqDiff reduceAdd reduceLeDiff reduceMul)
open Int (reduceNeg reduceLE reduceToNat)
namespace T
def gscV (n:Nat):List Int→List Bool→Bool→Option Bool
  | [],_,tw=>some tw
  | c::r,seen,tw=>if c<0∨(n:Int)≤c then none else gscV n r (seen.set c.toNat true) (tw || seen.getD c.toNat false)
theorem gscV_eq (n:Nat):∀ (l:List Int) (seen:List Bool) (tw:Bool) (pre:List Int),seen.length=n→(∀ c:Nat,c<n→seen.getD c false=decide ((c:Int)∈pre)) →
    gscV n l seen tw=if rngB n l=true then some (tw || twB pre l) else none
  | [],seen,tw,pre,_,_=>by rw[gscV,twB,Bool.or_false];rfl
  | c::r,seen,tw,pre,h1,h2=>by
    rw[gscV,twB]
    by_cases h:c<0∨(n:Int)≤c
    · rw[if_pos h,if_neg]
      unfold rngB
      rw[List.all_cons,decide_eq_false (by omega)];simp
    · have hc:0≤c∧c<n:=by omega
      rw[if_neg h,gscV_eq n r _ _ (c::pre) (by rw[List.length_set];exact h1),h2 c.toNat (by omega),Int.toNat_of_nonneg hc.1,Bool.or_assoc]
      · congr 1
        unfold rngB
        rw[List.all_cons,decide_eq_true hc,Bool.true_and]
      · intro k hk
        rw[getD_set' _ _ _ _ _ (by omega)]
        split
        · rw[decide_eq_true];simp;left;omega
        · rw[h2 k hk]
          congr 1
          rw[eq_iff_iff,List.mem_cons]
          constructor
          · exact .inr
          · rintro (h | h)
            · omega
            · exact h
theorem twB_iff:∀ (l pre:List Int),twB pre l=false↔l.Nodup∧∀ x∈l,x ∉ pre
  | [],pre=>by simp[twB]
  | c::r,pre=>by
    rw[twB,Bool.or_eq_false_iff,twB_iff r,decide_eq_false_iff_not,List.nodup_cons]
    constructor
    · rintro ⟨h1,h2,h3⟩
      refine⟨⟨fun h=>h3 c h (by simp),h2⟩,fun x hx=>?_⟩
      rcases List.mem_cons.1 hx with rfl | hx
      · exact h1
      · exact fun h=>h3 x hx (by simp[h])
    · rintro ⟨⟨h1,h2⟩,h3⟩
      refine⟨h3 c (by simp),h2,fun x hx h=>?_⟩
      rcases List.mem_cons.1 h with rfl | h
      · exact h1 hx
      · exact h3 x (by simp[hx]) h
def grT (m:Mdl) (order:List Int):List Int × Int :=
  if validV m≠0 then ([],validV m) else match gscV m.cls.length order (List.replicate m.cls.length false) false with
    | none=>([],3)
    | some true=>([],11)
    | some false=>(grdV m order (noneV m),0)
theorem gsc0 (n:Nat) (l:List Int):gscV n l (List.replicate n false) false=if rngB n l=true then some (twB [] l) else none:=by
  rw[gscV_eq n l _ _ [] (by simp),Bool.false_or]
  intro c _
  rw[List.getD_eq_getElem?_getD,List.getElem?_replicate,decide_eq_false (by simp)]
  split<;>rfl
theorem noneV_pm0 (m:Mdl):PM m (noneV m):=noneV_pm m
theorem Greedy_ok (m:Mdl) (hmB:MB m) (order:List Int) (ho:order.length<1000000):Holds Tryz.prog 20 [.agg (eMdl m),.tree 1 (ints order)] [] (.tup [.tree 1 (ints (grT m order).1),.lit (.int .i64 (grT m order).2)]) []:=by
  generalize hres:grT m order=res
  unfold grT at hres
  refine Holds.of_body' (fn:=Tryz.f20) 63 0 [.tmp 4,.tmp 5] Tryz.func20 rfl rfl rfl rfl rfl (by simp) ?_
  repeat' (first|((fail_if_success (first|refine W_at 4 ?_|refine W_atE 4 ?_));refine Xq X0 ?_;intro K hK)|refine Xo X0 ?_|refine Xc (valid_ok m hmB) ?_|(refine hK _ ?_;clear hK K)|(refine Xg X0 ?_ ?_<;>try intro hb)|(refine Xi ?_ ?_<;>try intro ht)|refine XY ?_|refine Xd ?_ ?_|exact Xx|fail)
  · rw[if_pos ht] at hres
    rw[← hres]
    exact RetOK_sel [] true (by decide) trivial (by decide) (by decide) (ArgR.tup2 ArgR.nil (.pure rfl))
  rw[if_neg (by omega)] at hres
  have hm:=valid_iff.1 (by omega)
  have hc24:=hm.cls
  have hno:=none_ok m hm
  have hpm0:=noneV_pm0 m
  have hrg:∀ c,gscV m.cls.length order (List.replicate m.cls.length false) false=some c→∀ x∈order,0≤x∧x<m.cls.length:=by
    intro c hc x hx
    rw[gsc0] at hc
    split at hc
    · rename_i h
      unfold rngB at h
      rw[List.all_eq_true] at h
      exact of_decide_eq_true (h x hx)
    · cases hc
  generalize noneV m=p0 at *
  obtain ⟨n,hcn⟩ :∃n,m.cls.length=n:=⟨_,rfl⟩
  rw[hcn] at hres hc24 hrg
  generalize hsc:gscV n order (List.replicate n false) false=sc at *
  ((try revert hK K);(repeat' (first|refine Vb @hcn ?_|(refine V2 @hcn ?_ ?_<;>try with_reducible intro hb)|(refine Xi ?_ ?_<;>try intro ht)|refine VD ?_ ?_|exact Xx|fail))<;>try with_reducible intro K hK)
  refine W_loopS (fun z:Nat × List Bool × Bool=>(⟨slots [(1,.tree 1 (ints order)),(2,.ptr 0 0 0),(7,.ref 1 1 0 n),(8,.lit (.bool z.2.2)),(23,.tree 1 (ints order)),(24,.lit (.int .i64 order.length)),(25,.lit (.int .i64 z.1))],[.var (eMdl m),.arr 1 (bools z.2.1)]⟩:St))
    (fun z=>z.1≤order.length∧z.2.1.length=n∧gscV n (order.drop z.1) z.2.1 z.2.2=sc) (fun z=>order.length - z.1) (0,List.replicate n false,false) ⟨Nat.zero_le _,by simp,hsc⟩ (Xv X0) ?_
  clear hsc
  rintro ⟨k,seen,tw⟩ ⟨hk,hsl,hsc⟩ Ql hnl hel
  dsimp only at hk hsl hsc ⊢
  by_cases hk':k<order.length
  · rw[getD_drop0 order k 0 hk',gscV] at hsc
    generalize hc:order.getD k 0=c at *
    by_cases hr:c<0∨(n:Int)≤c
    · rw[if_pos hr] at hsc
      rw[← hsc] at hres
      dsimp only at hres
      ((try revert hK K);(repeat' (first|refine Va @hc ?_|(refine V2 @hc ?_ ?_<;>try with_reducible intro hb)|(refine Xi ?_ ?_<;>try intro ht)|refine VD ?_ ?_|exact Xx|fail))<;>try with_reducible intro K hK)
      all_goals try (exfalso;omega)
      all_goals
        repeat (first|refine Xu ?_|(refine hel2 _ _ rfl ?_;clear hnl2 hel2;try clear Ql2)|(refine hel3 _ _ rfl ?_;clear hnl3 hel3;try clear Ql3)|(refine hel4 _ _ rfl ?_;clear hnl4 hel4;try clear Ql4))
        ((try revert hK K);(repeat' (first|refine Vb X0 ?_|(refine V2 X0 ?_ ?_<;>try with_reducible intro hb)|(refine Xi ?_ ?_<;>try intro ht)|refine VD ?_ ?_|exact Xx|fail))<;>try with_reducible intro K hK)
        rw[← hres]
        exact RetOK_sel [] true (by decide) trivial (by decide) (by decide) (ArgR.tup2 ArgR.nil (.pure rfl))
    · rw[if_neg hr] at hsc
      generalize hsn:seen.getD c.toNat false=sn at *
      cases tw
      · ((try revert hK K);(repeat' (first|refine Va (X4 @hc @hsl @hsn @bools_set) ?_|(refine V2 (X4 @hc @hsl @hsn @bools_set) ?_ ?_<;>try with_reducible intro hb)|(refine Xi ?_ ?_<;>try intro ht)|refine VD ?_ ?_|exact Xx|fail))<;>try with_reducible intro K hK)
        all_goals try (exfalso;omega)
        all_goals exact hnl _ (k+1,seen.set c.toNat true,sn) ⟨by dsimp only;omega,by dsimp only;rw[List.length_set];exact hsl,hsc⟩ (by dsimp only;omega) (Xv X0)
      · ((try revert hK K);(repeat' (first|refine Va (X4 @hc @hsl @hsn @bools_set) ?_|(refine V2 (X4 @hc @hsl @hsn @bools_set) ?_ ?_<;>try with_reducible intro hb)|(refine Xi ?_ ?_<;>try intro ht)|refine VD ?_ ?_|exact Xx|fail))<;>try with_reducible intro K hK)
        all_goals try (exfalso;omega)
        all_goals exact hnl _ (k+1,seen.set c.toNat true,true) ⟨by dsimp only;omega,by dsimp only;rw[List.length_set];exact hsl,hsc⟩ (by dsimp only;omega) (Xv X0)
  · rw[List.drop_eq_nil_of_le (by omega),gscV] at hsc
    rw[← hsc] at hres hrg
    ((try revert hK K);(repeat' (first|refine Va X0 ?_|(refine V2 X0 ?_ ?_<;>try with_reducible intro hb)|(refine Xi ?_ ?_<;>try intro ht)|refine VD ?_ ?_|exact Xx|fail))<;>try with_reducible intro K hK)
    all_goals try (exfalso;omega)
    refine hel _ _ rfl ?_;clear hnl hel Ql
    repeat (first|refine Xu ?_)
    clear hk hk' hsl
    cases tw
    · have hin:=hrg false rfl
      dsimp only at hres
      generalize hfin:grdV m order p0=fin at hres
      ((try revert hK K);(repeat' (first|refine Vb X0 ?_|(refine V2 X0 ?_ ?_<;>try with_reducible intro hb)|(refine Xi ?_ ?_<;>try intro ht)|refine VD ?_ ?_|exact Xx|fail))<;>try with_reducible intro K hK)
      all_goals try (exfalso;omega)
      (refine Xn [] (hno) ?_;simp (disch:=omega) only[Ac,↓Pc,simprocAttr])
      ((try revert hK K);(repeat' (first|refine Vb X0 ?_|(refine V2 X0 ?_ ?_<;>try with_reducible intro hb)|(refine Xi ?_ ?_<;>try intro ht)|refine VD ?_ ?_|exact Xx|fail))<;>try with_reducible intro K hK)
      refine W_loopS (fun z:Nat × List Int=>(⟨slots [(2,.ptr 0 0 0),(11,.ref 2 1 0 z.2.length),(51,.tree 1 (ints order)),(52,.lit (.int .i64 order.length)),(53,.lit (.int .i64 z.1))],[.var (eMdl m),.arr 1 (bools seen),.arr 1 (ints z.2)]⟩:St))
        (fun z=>z.1≤order.length∧PM m z.2∧grdV m (order.drop z.1) z.2=fin) (fun z=>order.length - z.1) (0,p0) ⟨Nat.zero_le _,hpm0,hfin⟩ (by dsimp only;rw[hpm0.len];exact Xv X0) ?_
      clear hfin hno hpm0
      rintro ⟨j,nx⟩ ⟨hj,hpn,hrj⟩ Ql hnl hel
      dsimp only at hj hpn hrj ⊢
      by_cases hj':j<order.length
      · have hgj:=hin _ (getD_mem (d:=0) hj')
        rw[getD_drop0 order j 0 hj',grdV] at hrj
        generalize hgg:order.getD j 0=g at *
        have hpc:=place_ok m nx g hm hpn (by omega)
        have hpn2:=plcM_pm hpn (c:=g.toNat) (by omega)
        ((try revert hK K);(repeat' (first|refine Va @hgg ?_|(refine V2 @hgg ?_ ?_<;>try with_reducible intro hb)|(refine Xi ?_ ?_<;>try intro ht)|refine VD ?_ ?_|exact Xx|fail))<;>try with_reducible intro K hK)
        (refine Xn [2] (hpc) ?_;simp (disch:=omega) only[Ac,↓Pc,simprocAttr])
        ((try revert hK K);(repeat' (first|refine Va X0 ?_|(refine V2 X0 ?_ ?_<;>try with_reducible intro hb)|(refine Xi ?_ ?_<;>try intro ht)|refine VD ?_ ?_|exact Xx|fail))<;>try with_reducible intro K hK)
        exact hnl _ (j+1,nx.set g.toNat (plcM m nx g.toNat)) ⟨by dsimp only;omega,hpn2,hrj⟩ (by dsimp only;omega) (by simp only[List.length_set];exact Xv X0)
      · rw[List.drop_eq_nil_of_le (by omega),grdV] at hrj
        ((try revert hK K);(repeat' (first|refine Va X0 ?_|(refine V2 X0 ?_ ?_<;>try with_reducible intro hb)|(refine Xi ?_ ?_<;>try intro ht)|refine VD ?_ ?_|exact Xx|fail))<;>try with_reducible intro K hK)
        all_goals try (exfalso;omega)
        refine hel _ _ rfl ?_;clear hnl hel Ql
        repeat (first|refine Xu ?_)
        ((try revert hK K);(repeat' (first|refine Vb X0 ?_|(refine V2 X0 ?_ ?_<;>try with_reducible intro hb)|(refine Xi ?_ ?_<;>try intro ht)|refine VD ?_ ?_|exact Xx|fail))<;>try with_reducible intro K hK)
        rw[← hres,← hrj]
        exact RetOK_sel [] true (by decide) trivial (by decide) (by decide) (ArgR.tup2 (ArgR.frz (rows:=ints nx) rfl (ints_wid _) (by rw[ints_length]) (not_kept (by simp)) (ints_frz _)) (.pure rfl))
    · dsimp only at hres
      ((try revert hK K);(repeat' (first|refine Vb X0 ?_|(refine V2 X0 ?_ ?_<;>try with_reducible intro hb)|(refine Xi ?_ ?_<;>try intro ht)|refine VD ?_ ?_|exact Xx|fail))<;>try with_reducible intro K hK)
      all_goals try (exfalso;omega)
      all_goals
        rw[← hres]
        exact RetOK_sel [] true (by decide) trivial (by decide) (by decide) (ArgR.tup2 ArgR.nil (.pure rfl))
theorem nodup_getI {l:List Int} (hn:l.Nodup) {i j:Nat} (hi:i<l.length) (hj:j<l.length) (h:l.getD i 0=l.getD j 0):i=j:=by
  rw[List.getD_eq_getElem?_getD,List.getD_eq_getElem?_getD] at h
  simp[hi,hj] at h
  exact (List.getElem_inj hn).1 h
theorem take_nodup {l:List Int} {i:Nat} (hi:i<l.length) (hn:(l.take i).Nodup) (h:∀ k,k<i→l.getD k 0≠l.getD i 0):(l.take (i+1)).Nodup:=by
  have e:l.take (i+1)=l.take i++[l.getD i 0]:=by
    rw[List.take_add_one,List.getD_eq_getElem?_getD]
    rw[List.getElem?_eq_getElem hi];rfl
  rw[e,List.nodup_append]
  refine⟨hn,by simp,fun x hx y hy=>?_⟩
  rw[List.mem_singleton.1 hy]
  obtain ⟨k,hk,rfl⟩:=List.mem_iff_getElem.1 hx
  rw[List.length_take] at hk
  have:=h k (by omega)
  rw[List.getElem_take]
  rwa [List.getD_eq_getElem?_getD,List.getElem?_eq_getElem (by omega),Option.getD_some] at this
theorem grT_rng {m:Mdl} {order:List Int} (hm:VM m) (h:rngB m.cls.length order=false):grT m order=([],3):=by
  unfold grT
  rw[if_neg (by rw[valid_iff.2 hm];simp),gsc0,h];rfl
theorem grT_dup {m:Mdl} {order:List Int} (hm:VM m) (h:rngB m.cls.length order=true) (hd:¬ order.Nodup):grT m order=([],11):=by
  have:twB [] order=true:=by
    cases e:twB [] order
    · exact absurd ((twB_iff order []).1 e).1 hd
    · rfl
  unfold grT
  rw[if_neg (by rw[valid_iff.2 hm];simp),gsc0,h,this];rfl
theorem grT_ok {m:Mdl} {order:List Int} (hm:VM m) (h:rngB m.cls.length order=true) (hd:order.Nodup):grT m order=(grdV m order (noneV m),0):=by
  have:twB [] order=false:=(twB_iff order []).2 ⟨hd,by simp⟩
  unfold grT
  rw[if_neg (by rw[valid_iff.2 hm];simp),gsc0,h,this];rfl
theorem rGreedy_ok (m:Mdl) (hmB:MB m) (order:List Int) (ho:order.length<1000000):Holds Tryz.prog 21 [.agg (eMdl m),.tree 1 (ints order)] [] (.tup [.tree 1 (ints (grT m order).1),.lit (.int .i64 (grT m order).2)]) []:=by
  by_cases hv:validV m≠0
  · unfold grT
    rw[if_pos hv]
    refine Holds.of_body' (fn:=Tryz.f21) 83 0 [.tmp 4,.tmp 5] Tryz.func21 rfl rfl rfl rfl rfl (by simp) ?_
    ((try revert hK K);(repeat' (first|refine Vd X0 (refValid_ok m hmB) ?_|(refine V2 X0 ?_ ?_<;>try with_reducible intro hb)|(refine Xi ?_ ?_<;>try intro ht)|refine VD ?_ ?_|exact Xx|fail))<;>try with_reducible intro K hK)
    all_goals try (exfalso;omega)
    exact RetOK_sel [] true (by decide) trivial (by decide) (by decide) (ArgR.tup2 ArgR.nil (.pure rfl))
  have hm:=valid_iff.1 (by omega:validV m=0)
  have hc24:=hm.cls
  have h1:=grT_rng (order:=order) hm
  have h2:=grT_dup (order:=order) hm
  have h3:=grT_ok (order:=order) hm
  have hno:=rNone_ok m hm
  have hpm0:=noneV_pm0 m
  generalize grT m order=res at *
  generalize noneV m=p0 at *
  obtain ⟨n,hcn⟩ :∃n,m.cls.length=n:=⟨_,rfl⟩
  rw[hcn] at h1 h2 h3 hc24
  refine Holds.of_body' (fn:=Tryz.f21) 83 0 [.tmp 4,.tmp 5] Tryz.func21 rfl rfl rfl rfl rfl (by simp) ?_
  ((try revert hK K);(repeat' (first|refine Vd @hcn (refValid_ok m hmB) ?_|(refine V2 @hcn ?_ ?_<;>try with_reducible intro hb)|(refine Xi ?_ ?_<;>try intro ht)|refine VD ?_ ?_|exact Xx|fail))<;>try with_reducible intro K hK)
  all_goals try (exfalso;omega)
  refine W_loopS (fun k:Nat=>(⟨slots [(1,.tree 1 (ints order)),(2,.ptr 0 0 0),(7,.lit (.int .i64 k))],[.var (eMdl m)]⟩:St))
    (fun k=>k≤order.length∧rngB n (order.drop k)=rngB n order) (fun k=>order.length - k) 0 ⟨Nat.zero_le _,rfl⟩ (Xv X0) ?_
  rintro k ⟨hk,hrg⟩ Ql hnl hel
  by_cases hk':k<order.length
  · rw[getD_drop0 order k 0 hk'] at hrg
    unfold rngB at hrg
    rw[List.all_cons] at hrg
    generalize hc:order.getD k 0=c at *
    by_cases hr:c<0∨(n:Int)≤c
    · rw[decide_eq_false (by omega),Bool.false_and] at hrg
      have hres:=h1 hrg.symm
      ((try revert hK K);(repeat' (first|refine Va (X2 @hc @hcn) ?_|(refine V2 (X2 @hc @hcn) ?_ ?_<;>try with_reducible intro hb)|(refine Xi ?_ ?_<;>try intro ht)|refine VD ?_ ?_|exact Xx|fail))<;>try with_reducible intro K hK)
      all_goals try (exfalso;omega)
      all_goals
        repeat (first|refine Xu ?_|(refine hel2 _ _ rfl ?_;clear hnl2 hel2;try clear Ql2)|(refine hel3 _ _ rfl ?_;clear hnl3 hel3;try clear Ql3)|(refine hel4 _ _ rfl ?_;clear hnl4 hel4;try clear Ql4))
        ((try revert hK K);(repeat' (first|refine Vb X0 ?_|(refine V2 X0 ?_ ?_<;>try with_reducible intro hb)|(refine Xi ?_ ?_<;>try intro ht)|refine VD ?_ ?_|exact Xx|fail))<;>try with_reducible intro K hK)
        rw[hres]
        exact RetOK_sel [] true (by decide) trivial (by decide) (by decide) (ArgR.tup2 ArgR.nil (.pure rfl))
    · rw[decide_eq_true (by omega),Bool.true_and] at hrg
      ((try revert hK K);(repeat' (first|refine Va (X2 @hc @hcn) ?_|(refine V2 (X2 @hc @hcn) ?_ ?_<;>try with_reducible intro hb)|(refine Xi ?_ ?_<;>try intro ht)|refine VD ?_ ?_|exact Xx|fail))<;>try with_reducible intro K hK)
      all_goals try (exfalso;omega)
      all_goals exact hnl _ (k+1) ⟨by omega,hrg⟩ (by omega) (Xv X0)
  · rw[List.drop_eq_nil_of_le (by omega)] at hrg
    have hrg:rngB n order=true:=hrg.symm
    have hin:∀ x∈order,0≤x∧x<m.cls.length:=fun x hx=>by
      unfold rngB at hrg
      rw[List.all_eq_true] at hrg
      rw[hcn]
      exact of_decide_eq_true (hrg x hx)
    ((try revert hK K);(repeat' (first|refine Va X0 ?_|(refine V2 X0 ?_ ?_<;>try with_reducible intro hb)|(refine Xi ?_ ?_<;>try intro ht)|refine VD ?_ ?_|exact Xx|fail))<;>try with_reducible intro K hK)
    all_goals try (exfalso;omega)
    refine hel _ _ rfl ?_;clear hnl hel Ql
    repeat (first|refine Xu ?_)
    clear hk hk'
    ((try revert hK K);(repeat' (first|refine Vb X0 ?_|(refine V2 X0 ?_ ?_<;>try with_reducible intro hb)|(refine Xi ?_ ?_<;>try intro ht)|refine VD ?_ ?_|exact Xx|fail))<;>try with_reducible intro K hK)
    refine W_loopS (fun i:Nat=>(⟨slots [(1,.tree 1 (ints order)),(2,.ptr 0 0 0),(8,.lit (.int .i64 i))],[.var (eMdl m)]⟩:St))
      (fun i=>i≤order.length∧(order.take i).Nodup) (fun i=>order.length - i) 0 ⟨Nat.zero_le _,by simp⟩ (Xv X0) ?_
    rintro i ⟨hi,hnd⟩ Ql hnl hel
    by_cases hi':i<order.length
    · generalize hc:order.getD i 0=c at *
      ((try revert hK K);(repeat' (first|refine Va X0 ?_|(refine V2 X0 ?_ ?_<;>try with_reducible intro hb)|(refine Xi ?_ ?_<;>try intro ht)|refine VD ?_ ?_|exact Xx|fail))<;>try with_reducible intro K hK)
      all_goals try (exfalso;omega)
      refine W_loopS (fun k:Nat=>(⟨slots [(1,.tree 1 (ints order)),(2,.ptr 0 0 0),(8,.lit (.int .i64 i)),(9,.lit (.int .i64 k))],[.var (eMdl m)]⟩:St))
        (fun k=>k≤i∧∀ k',k'<k→order.getD k' 0≠c) (fun k=>i - k) 0 ⟨Nat.zero_le _,fun k' h=>by omega⟩ (Xv X0) ?_
      rintro k ⟨hk,hne⟩ Ql2 hnl2 hel2
      by_cases hk':k<i
      · generalize hd:order.getD k 0=d at *
        by_cases hcd:c=d
        · have hres:=h2 hrg (fun hh=>by have:=nodup_getI hh (i:=i) (j:=k) hi' (by omega) (by rw[hc,hd,hcd]);omega)
          ((try revert hK K);(repeat' (first|refine Va (X2 @hc @hd) ?_|(refine V2 (X2 @hc @hd) ?_ ?_<;>try with_reducible intro hb)|(refine Xi ?_ ?_<;>try intro ht)|refine VD ?_ ?_|exact Xx|fail))<;>try with_reducible intro K hK)
          all_goals try (exfalso;omega)
          all_goals
            repeat (first|refine Xu ?_|(refine hel2 _ _ rfl ?_;clear hnl2 hel2;try clear Ql2)|(refine hel3 _ _ rfl ?_;clear hnl3 hel3;try clear Ql3)|(refine hel4 _ _ rfl ?_;clear hnl4 hel4;try clear Ql4))
            ((try revert hK K);(repeat' (first|refine Vb X0 ?_|(refine V2 X0 ?_ ?_<;>try with_reducible intro hb)|(refine Xi ?_ ?_<;>try intro ht)|refine VD ?_ ?_|exact Xx|fail))<;>try with_reducible intro K hK)
            rw[hres]
            exact RetOK_sel [] true (by decide) trivial (by decide) (by decide) (ArgR.tup2 ArgR.nil (.pure rfl))
        · ((try revert hK K);(repeat' (first|refine Va (X2 @hc @hd) ?_|(refine V2 (X2 @hc @hd) ?_ ?_<;>try with_reducible intro hb)|(refine Xi ?_ ?_<;>try intro ht)|refine VD ?_ ?_|exact Xx|fail))<;>try with_reducible intro K hK)
          all_goals try (exfalso;omega)
          all_goals exact hnl2 _ (k+1) ⟨by omega,fun k' hh=>by
            by_cases e:k'=k
            · rw[e,hd];exact fun e2=>hcd e2.symm
            · exact hne k' (by omega)⟩ (by omega) (Xv X0)
      · ((try revert hK K);(repeat' (first|refine Va X0 ?_|(refine V2 X0 ?_ ?_<;>try with_reducible intro hb)|(refine Xi ?_ ?_<;>try intro ht)|refine VD ?_ ?_|exact Xx|fail))<;>try with_reducible intro K hK)
        all_goals try (exfalso;omega)
        refine hel2 _ _ rfl ?_
        clear hnl2 hel2
        repeat (first|refine Xu ?_)
        ((try revert hK K);(repeat' (first|refine Va X0 ?_|(refine V2 X0 ?_ ?_<;>try with_reducible intro hb)|(refine Xi ?_ ?_<;>try intro ht)|refine VD ?_ ?_|exact Xx|fail))<;>try with_reducible intro K hK)
        exact hnl _ (i+1) ⟨by omega,take_nodup hi' hnd fun k' hh=>by rw[hc];exact hne k' (by omega)⟩ (by omega) (Xv X0)
    · rw[List.take_of_length_le (by omega)] at hnd
      have hres:=h3 hrg hnd
      clear h1 h2 h3
      ((try revert hK K);(repeat' (first|refine Va X0 ?_|(refine V2 X0 ?_ ?_<;>try with_reducible intro hb)|(refine Xi ?_ ?_<;>try intro ht)|refine VD ?_ ?_|exact Xx|fail))<;>try with_reducible intro K hK)
      all_goals try (exfalso;omega)
      refine hel _ _ rfl ?_;clear hnl hel Ql
      repeat (first|refine Xu ?_)
      clear hi hi'
      generalize hfin:grdV m order p0=fin at hres
      ((try revert hK K);(repeat' (first|refine Vb X0 ?_|(refine V2 X0 ?_ ?_<;>try with_reducible intro hb)|(refine Xi ?_ ?_<;>try intro ht)|refine VD ?_ ?_|exact Xx|fail))<;>try with_reducible intro K hK)
      (refine Xn [] (hno) ?_;simp (disch:=omega) only[Ac,↓Pc,simprocAttr])
      ((try revert hK K);(repeat' (first|refine Vb X0 ?_|(refine V2 X0 ?_ ?_<;>try with_reducible intro hb)|(refine Xi ?_ ?_<;>try intro ht)|refine VD ?_ ?_|exact Xx|fail))<;>try with_reducible intro K hK)
      refine W_loopS (fun z:Nat × List Int=>(⟨slots [(1,.tree 1 (ints order)),(2,.ptr 0 0 0),(10,.ref 1 1 0 z.2.length),(11,.lit (.int .i64 z.1))],[.var (eMdl m),.arr 1 (ints z.2)]⟩:St))
        (fun z=>z.1≤order.length∧PM m z.2∧grdV m (order.drop z.1) z.2=fin) (fun z=>order.length - z.1) (0,p0) ⟨Nat.zero_le _,hpm0,hfin⟩ (by dsimp only;rw[hpm0.len];exact Xv X0) ?_
      clear hfin hno hpm0
      rintro ⟨j,nx⟩ ⟨hj,hpn,hrj⟩ Ql hnl hel
      dsimp only at hj hpn hrj ⊢
      have hnl4:=hpn.len
      by_cases hj':j<order.length
      · have hgj:=hin _ (getD_mem (d:=0) hj')
        rw[getD_drop0 order j 0 hj',grdV] at hrj
        generalize hgg:order.getD j 0=g at *
        have hpc:=possible_ok m nx g hm hpn (by omega)
        have hpn2:=plcM_pm hpn (c:=g.toNat) (by omega)
        repeat' (first|((fail_if_success (first|refine W_at 21 ?_|refine W_atE 21 ?_));refine Xr X0 ?_;intro K hK)|refine Xo X0 ?_|(refine hK _ ?_;clear hK K)|(refine Xg X0 ?_ ?_<;>try intro hb)|(refine Xi ?_ ?_<;>try intro ht)|refine Xy ?_|refine Xd ?_ ?_|exact Xx|fail)
        all_goals try (exfalso;omega)
        refine unBq ?_;intro Q hn he
        refine (join_here ⟨slots [(1,.tree 1 (ints order)),(2,.ptr 0 0 0),(10,.ref 1 1 0 nx.length),(11,.lit (.int .i64 j))],[.var (eMdl m),.arr 1 (ints (nx.set g.toNat (plcM m nx g.toNat)))]⟩ hn ?_ (fun key=>?_))
        rotate_left
        · refine W_draw [] (.take 0 (.take 1 (.take 2 (.take 5 (.take 6 (.take 7 (.take 8 (.take 9 (.take 10 (.both 3 (.both 4 (.take 11 (.take 12 (.take 13 (.take 14 (.take 15 (.take 16 .nil)))))) 11 (.take 4 (.take 12 (.take 13 (.take 14 (.take 15 (.take 16 .nil))))))) 11 (.take 3 (.take 4 (.take 12 (.take 13 (.take 14 (.take 15 (.take 16 .nil))))))))))))))))) rfl (by decide) (by decide +kernel) ?_
          simp (disch:=omega) only[Ac,↓Pc,simprocAttr,Pw,hgg]
          repeat' (first|with_reducible refine And.intro ?_ ?_|omega|with_reducible rfl)
          all_goals
            refine callK_snap [] hpc (by decide) trivial ⟨.pure rfl,ArgR.frz (rows:=ints nx) rfl (ints_wid _) (by simp only[Bc,Rc]) (by simp) (ints_frz _),.pure rfl,trivial⟩ rfl (by simp) ?_
            simp (disch:=omega) only[Ac,↓Pc,simprocAttr,Pw,hgg,ints_set]
            repeat' (first|with_reducible refine And.intro ?_ ?_|omega|with_reducible rfl)
            refine .n _ (key _ ?_)
            exact Xv X0
        (try clear hn;try clear he)
        ((try revert hK K);(repeat' (first|refine Va X0 ?_|(refine V2 X0 ?_ ?_<;>try with_reducible intro hb)|(refine Xi ?_ ?_<;>try intro ht)|refine VD ?_ ?_|exact Xx|fail))<;>try with_reducible intro K hK)
        exact hnl _ (j+1,nx.set g.toNat (plcM m nx g.toNat)) ⟨by dsimp only;omega,hpn2,hrj⟩ (by dsimp only;omega) (by simp only[List.length_set];exact Xv X0)
      · rw[List.drop_eq_nil_of_le (by omega),grdV] at hrj
        ((try revert hK K);(repeat' (first|refine Va X0 ?_|(refine V2 X0 ?_ ?_<;>try with_reducible intro hb)|(refine Xi ?_ ?_<;>try intro ht)|refine VD ?_ ?_|exact Xx|fail))<;>try with_reducible intro K hK)
        all_goals try (exfalso;omega)
        refine hel _ _ rfl ?_;clear hnl hel Ql
        repeat (first|refine Xu ?_)
        ((try revert hK K);(repeat' (first|refine Vb X0 ?_|(refine V2 X0 ?_ ?_<;>try with_reducible intro hb)|(refine Xi ?_ ?_<;>try intro ht)|refine VD ?_ ?_|exact Xx|fail))<;>try with_reducible intro K hK)
        rw[hres,← hrj]
        exact RetOK_sel [] true (by decide) trivial (by decide) (by decide) (ArgR.tup2 (ArgR.frz (rows:=ints nx) rfl (ints_wid _) (by rw[ints_length]) (not_kept (by simp)) (ints_frz _)) (.pure rfl))
end T

