import Derived.Test.YtmhloinjpcabcaaGreatX41
import Derived.Test.YtmhloinjpcabcaaGreatX42
import Derived.Test.YtmhloinjpcabcaaGreatX44
import Derived.Test.YtmhloinjpcabcaaGreatX40
set_option linter.unusedVariables false
set_option linter.unusedSimpArgs false
set_option linter.unnecessarySimpa false
set_option linter.unusedSectionVars false
set_option maxHeartbeats 64000000
set_option maxRecDepth 20000
open Go Go.Am Go.Proofs
open Nat (reduceEqDiff reduceAdd reduceLeDiff reduceMul)
open Int (reduceNeg reduceLE reduceToNat)
namespace T
theorem chgT_ok {m:Mdl} {plan:List Int} {c:Nat} {o:Int} (hm:VM m) (hp:PM m plan) (hc:c<plan.length) (h0:0≤o) (ho:o<(m.cls.getD c default).length):changeT m plan c o=(totalL (rulesV m (plan.set c o)) 0,0):=by
  rw[changeT,if_neg (by rw[valid_iff.2 hm];simp),if_neg (by rw[pm_planned hp];simp),if_neg,Int.toNat_natCast]
  · rfl
  · rw[Int.toNat_natCast];omega
theorem nbV_take {m:Mdl} {a:Nat} (h:a<m.cls.length):(nbV m).take (a+1)=(nbV m).take a++[nbC m a m.cls.length 0 0]:=by
  rw[List.take_add_one]
  congr 1
  unfold nbV
  rw[List.getElem?_map,List.getElem?_range h];rfl
theorem nbC_range (m:Mdl) (a:Nat):∀ (f b:Nat) (n:Int),n≤nbC m a f b n∧nbC m a f b n≤n+f
  | 0,b,n=>⟨Int.le_refl _,by rw[nbC];omega⟩
  | f+1,b,n=>by
    rw[nbC]
    split
    · have:=nbC_range m a f (b+1) (n+1);omega
    · have:=nbC_range m a f (b+1) n;omega
theorem rNeighbours_ok (m:Mdl) (hb:MB m):Holds Tryz.prog 16 [.agg (eMdl m)] [] (.tup [.tree 1 (ints (nbT m).1),.lit (.int .i64 (nbT m).2)]) []:=by
  generalize hres:nbT m=res
  unfold nbT at hres
  refine Holds.of_body' (fn:=Tryz.f16) 45 0 [.tmp 2,.tmp 3] Tryz.func16 rfl rfl rfl rfl rfl (by simp) ?_
  repeat' (first|((fail_if_success (first|refine W_at 4 ?_|refine W_atE 4 ?_));refine Xq X0 ?_;intro K hK)|refine Xo X0 ?_|refine Xc (refValid_ok m hb) ?_|(refine hK _ ?_;clear hK K)|(refine Xg X0 ?_ ?_<;>try intro hb)|(refine Xi ?_ ?_<;>try intro ht)|refine XY ?_|refine Xd ?_ ?_|exact Xx|fail)
  · rw[if_pos ht] at hres
    rw[← hres]
    exact RetOK_sel [] true (by decide) trivial (by decide) (by decide) (ArgR.tup2 ArgR.nil (.pure rfl))
  rw[if_neg (by omega)] at hres
  have hvm:=valid_iff.1 (by omega)
  have hc24:=hvm.cls
  have hnear:=fun a b=>rNear_ok m hvm a b
  obtain ⟨n,hcn⟩ :∃n,m.cls.length=n:=⟨_,rfl⟩
  rw[hcn] at hc24
  ((try revert hK K);(repeat' (first|refine Vb @hcn ?_|(refine V2 @hcn ?_ ?_<;>try with_reducible intro hb)|(refine Xi ?_ ?_<;>try intro ht)|refine VD ?_ ?_|exact Xx|fail))<;>try with_reducible intro K hK)
  refine W_loopS (fun a:Nat=>(⟨slots [(1,.ptr 0 0 0),(5,.ref 1 1 0 n),(6,.lit (.int .i64 a))],[.var (eMdl m),.arr 1 (ints ((nbV m).take a++List.replicate (n - a) 0))]⟩:St)) (fun a=>a≤n) (fun a=>n - a) 0 (Nat.zero_le _) (by simp only[List.take_zero,List.nil_append,Nat.sub_zero];exact Xv X0) ?_
  rintro a ha Ql hnl hel
  by_cases ha':a<n
  · have hta:=nbV_take (m:=m) (a:=a) (by omega)
    have htl:((nbV m).take a).length=a:=by rw[List.length_take,nbV_len];omega
    rw[hcn] at hta
    have hnr:=(nbC_range m a n 0 0)
    have hset0:∀ x:Int,((nbV m).take a++x::List.replicate (n - (a+1)) 0).length=n:=fun x=>by rw[List.length_append,htl,List.length_cons,List.length_replicate];omega
    have hset1:∀ x y:Int,((nbV m).take a++x::List.replicate (n - (a+1)) 0).set a y=(nbV m).take a++y::List.replicate (n - (a+1)) 0:=fun x y=>by
      rw[List.set_append_right _ _ (by omega),htl,Nat.sub_self,List.set_cons_zero]
    have hset2:∀ x:Int,((nbV m).take a++x::List.replicate (n - (a+1)) 0).getD a 0=x:=fun x=>by
      rw[List.getD_eq_getElem?_getD,List.getElem?_append_right (by omega),htl,Nat.sub_self];rfl
    generalize hv:nbC m a n 0 0=v at *
    rw[show n - a=(n - (a+1))+1 by omega,List.replicate_succ]
    ((try revert hK K);(repeat' (first|refine Va X0 ?_|(refine V2 X0 ?_ ?_<;>try with_reducible intro hb)|(refine Xi ?_ ?_<;>try intro ht)|refine VD ?_ ?_|exact Xx|fail))<;>try with_reducible intro K hK)
    refine W_loopS (fun z:Nat × Int=>(⟨slots [(1,.ptr 0 0 0),(5,.ref 1 1 0 n),(6,.lit (.int .i64 a)),(7,.lit (.int .i64 z.1))],[.var (eMdl m),.arr 1 (ints ((nbV m).take a++z.2::List.replicate (n - (a+1)) 0))]⟩:St)) (fun z=>z.1≤n∧0≤z.2∧z.2≤z.1∧nbC m a (n - z.1) z.1 z.2=v) (fun z=>n - z.1) (0,0) ⟨Nat.zero_le _,Int.le_refl _,Int.le_refl _,hv⟩ (Xv X0) ?_
    clear hv
    rintro ⟨b,x⟩ ⟨hb,hx0,hx1,hr⟩ Ql2 hnl2 hel2
    dsimp only at hb hx0 hx1 hr ⊢
    by_cases hb':b<n
    · have hs0:=hset0 x
      have hs1:=hset1 x
      have hs2:=hset2 x
      have hne:=hnear a b
      rw[show n - b=(n - (b+1))+1 by omega,nbC] at hr
      generalize nearB m a b=nb at *
      generalize hxs:(nbV m).take a++x::List.replicate (n - (a+1)) 0=xs at *
      by_cases hab:a≠b∧nb=true
      · rw[if_pos hab] at hr
        rw[hab.2] at hne
        ((try revert hK K);(repeat' (first|refine Vc (X4 @hs0 @hs2 @ints_set @hs1) hne ?_|(refine V2 (X4 @hs0 @hs2 @ints_set @hs1) ?_ ?_<;>try with_reducible intro hb)|(refine Xi ?_ ?_<;>try intro ht)|refine VD ?_ ?_|exact Xx|fail))<;>try with_reducible intro K hK)
        all_goals try (exfalso;omega)
        exact hnl2 _ (b+1,x+1) ⟨by dsimp only;omega,by dsimp only;omega,by dsimp only;omega,hr⟩ (by dsimp only;omega) (Xv X0)
      · rw[if_neg hab] at hr
        ((try revert hK K);(repeat' (first|refine Vc (X4 @hs0 @hs2 @ints_set @hs1) hne ?_|(refine V2 (X4 @hs0 @hs2 @ints_set @hs1) ?_ ?_<;>try with_reducible intro hb)|(refine Xi ?_ ?_<;>try intro ht)|refine VD ?_ ?_|exact Xx|fail))<;>try with_reducible intro K hK)
        all_goals try (exfalso;omega)
        all_goals try (exfalso;exact hab ⟨by omega,by assumption⟩)
        all_goals exact hnl2 _ (b+1,x) ⟨by dsimp only;omega,by dsimp only;omega,by dsimp only;omega,hr⟩ (by dsimp only;omega) (by dsimp only;rw[hxs];exact Xv X0)
    · rw[show n - b=0 by omega,nbC] at hr
      subst hr
      have hs0:=hset0 x
      have hta2:(nbV m).take a++x::List.replicate (n - (a+1)) 0=(nbV m).take (a+1)++List.replicate (n - (a+1)) 0:=by rw[hta,List.append_assoc];rfl
      rw[hta2] at hs0 ⊢
      ((try revert hK K);(repeat' (first|refine Va @hs0 ?_|(refine V2 @hs0 ?_ ?_<;>try with_reducible intro hb)|(refine Xi ?_ ?_<;>try intro ht)|refine VD ?_ ?_|exact Xx|fail))<;>try with_reducible intro K hK)
      refine hel2 _ _ rfl ?_
      clear hnl2 hel2
      repeat (first|refine Xu ?_)
      ((try revert hK K);(repeat' (first|refine Va X0 ?_|(refine V2 X0 ?_ ?_<;>try with_reducible intro hb)|(refine Xi ?_ ?_<;>try intro ht)|refine VD ?_ ?_|exact Xx|fail))<;>try with_reducible intro K hK)
      exact hnl _ (a+1) (by omega) (by omega) (Xv X0)
  · rw[List.take_of_length_le (by rw[nbV_len];omega),show n - a=0 by omega,List.replicate_zero,List.append_nil]
    have hnl0:=nbV_len m
    ((try revert hK K);(repeat' (first|refine Va X0 ?_|(refine V2 X0 ?_ ?_<;>try with_reducible intro hb)|(refine Xi ?_ ?_<;>try intro ht)|refine VD ?_ ?_|exact Xx|fail))<;>try with_reducible intro K hK)
    refine hel _ _ rfl ?_;clear hnl hel Ql
    repeat (first|refine Xu ?_)
    ((try revert hK K);(repeat' (first|refine Vb X0 ?_|(refine V2 X0 ?_ ?_<;>try with_reducible intro hb)|(refine Xi ?_ ?_<;>try intro ht)|refine VD ?_ ?_|exact Xx|fail))<;>try with_reducible intro K hK)
    rw[← hres]
    exact RetOK_sel [] true (by decide) trivial (by decide) (by decide) (ArgR.tup2 (ArgR.frz (rows:=ints (nbV m)) rfl (ints_wid _) (by rw[ints_length,nbV_len,hcn]) (not_kept (by simp)) (ints_frz _)) (.pure rfl))
theorem rNone_ok (m:Mdl) (hm:VM m):Holds Tryz.prog 51 [.agg (eMdl m)] [] (.ref 0 1 0 m.cls.length) [.arr 1 (ints (noneV m))]:=by
  have hc24:=hm.cls
  unfold noneV
  refine Holds.of_body' (fn:=Tryz.f51) 19 0 [.tmp 2] Tryz.func51 rfl rfl rfl rfl rfl (by simp) ?_
  ((try revert hK K);(repeat' (first|refine Vb X0 ?_|(refine V2 X0 ?_ ?_<;>try with_reducible intro hb)|(refine Xi ?_ ?_<;>try intro ht)|refine VD ?_ ?_|exact Xx|fail))<;>try with_reducible intro K hK)
  refine W_loopS (fun k:Nat=>(⟨slots [(3,.ref 0 1 0 m.cls.length),(4,.lit (.int .i64 k))],[.arr 1 (ints (List.replicate k (-1:Int)++List.replicate (m.cls.length - k) 0))]⟩:St)) (fun k=>k≤m.cls.length) (fun k=>m.cls.length - k) 0 (Nat.zero_le _) (Xs false [1] (X3 @Nat.sub_zero @List.replicate_zero.{0} @List.nil_append.{0})) ?_
  rintro k hk Ql hnl hel
  by_cases hk':k<m.cls.length
  · have hs:=none_set hk'
    have hlen:(List.replicate k (-1:Int)++List.replicate (m.cls.length - k) 0).length=m.cls.length:=by simp;omega
    generalize List.replicate k (-1:Int)++List.replicate (m.cls.length - k) 0=xs at *
    ((try revert hK K);(repeat' (first|refine Va (X2 @ints_set @hlen) ?_|(refine V2 (X2 @ints_set @hlen) ?_ ?_<;>try with_reducible intro hb)|(refine Xi ?_ ?_<;>try intro ht)|refine VD ?_ ?_|exact Xx|fail))<;>try with_reducible intro K hK)
    exact hnl _ (k+1) (by omega) (by omega) (by rw[← hs];exact Xv X0)
  · obtain rfl:k=m.cls.length:=by omega
    rw[Nat.sub_self,List.replicate_zero,List.append_nil]
    ((try revert hK K);(repeat' (first|refine Va X0 ?_|(refine V2 X0 ?_ ?_<;>try with_reducible intro hb)|(refine Xi ?_ ?_<;>try intro ht)|refine VD ?_ ?_|exact Xx|fail))<;>try with_reducible intro K hK)
    refine hel _ _ rfl ?_;clear hnl hel Ql
    repeat (first|refine Xu ?_)
    ((try revert hK K);(repeat' (first|refine Vb X0 ?_|(refine V2 X0 ?_ ?_<;>try with_reducible intro hb)|(refine Xi ?_ ?_<;>try intro ht)|refine VD ?_ ?_|exact Xx|fail))<;>try with_reducible intro K hK)
    exact Xw true [0] X0
theorem possible_ok (m:Mdl) (plan:List Int) (c:Int) (hm:VM m) (hp:PM m plan) (hc:0≤c∧c<m.cls.length) :
    Holds Tryz.prog 37 [.agg (eMdl m),.tree 1 (ints plan),.lit (.int .i64 c)] [] (.tup [.lit (.int .i64 (cntM m plan c.toNat)),.lit (.int .i64 (plcM m plan c.toNat))]) []:=by
  have hpl:=hp.len
  have hcl:=hm.cls
  have hl24:=hm.opt _ (getD_mem (l:=m.cls) (i:=c.toNat) (d:=default) (by omega))
  have hrange:∀ k:Nat,In41 (chgF m plan c.toNat k):=fun k=>costP_in hm _
  have hw:∀ k:Nat,k<(m.cls.getD c.toNat default).length→Holds Tryz.prog 26 [.agg (eMdl m),.tree 1 (ints plan),.lit (.int .i64 c),.lit (.int .i64 (k:Nat))] [] (.tup [.lit (.int .i64 (chgF m plan c.toNat k)),.lit (.int .i64 0)]) []:=fun k hk=>by
    have h:=refChange_ok m plan (c.toNat:Nat) (k:Nat) hm.mb (by omega)
    rw[chgT_ok hm hp (by omega) (by omega) (by omega),Int.toNat_of_nonneg hc.1] at h
    exact h
  have hpv:=possV_eq m plan c.toNat
  unfold possV at hpv
  generalize cntM m plan c.toNat=r1 at *
  generalize plcM m plan c.toNat=r2 at *
  generalize chgF m plan c.toNat=f at *
  generalize hll:m.cls.getD c.toNat default=l at *
  obtain ⟨hp1,hp2⟩:(posV f l.length 0 0 (-1) 1099511627776).1=r1∧(posV f l.length 0 0 (-1) 1099511627776).2.1=r2:=⟨congrArg Prod.fst hpv,congrArg Prod.snd hpv⟩
  refine Holds.of_body' (fn:=Tryz.f37) 43 0 [.tmp 6,.tmp 7] Tryz.func37 rfl rfl rfl rfl rfl (by simp) ?_
  ((try revert hK K);(repeat' (first|refine Vb @hll ?_|(refine V2 @hll ?_ ?_<;>try with_reducible intro hb)|(refine Xi ?_ ?_<;>try intro ht)|refine VD ?_ ?_|exact Xx|fail))<;>try with_reducible intro K hK)
  refine W_loopS (fun z:Nat × Int × Int × Int=>(⟨slots [(1,.tree 1 (ints plan)),(2,.lit (.int .i64 c)),(3,.ptr 0 0 0),(8,.lit (.int .i64 z.2.1)),(9,.lit (.int .i64 z.2.2.1)),(10,.lit (.int .i64 z.2.2.2)),(11,.lit (.int .i64 z.1))],[.var (eMdl m)]⟩:St))
    (fun z=>z.1≤l.length∧0≤z.2.1∧z.2.1≤z.1∧(posV f (l.length - z.1) z.1 z.2.1 z.2.2.1 z.2.2.2).1=r1∧(posV f (l.length - z.1) z.1 z.2.1 z.2.2.1 z.2.2.2).2.1=r2) (fun z=>l.length - z.1) (0,0,-1,1099511627776) ⟨Nat.zero_le _,Int.le_refl _,Int.le_refl _,hp1,hp2⟩ (Xv X0) ?_
  rintro ⟨k,a,b,s⟩ ⟨hk,ha0,ha1,hr1,hr2⟩ Ql hnl hel
  dsimp only at hk ha0 ha1 hr1 hr2 ⊢
  by_cases hk':k<l.length
  · rw[show l.length - k=(l.length - (k+1))+1 by omega,posV] at hr1 hr2
    have hw:=hw k hk'
    have hrk:=hrange k
    generalize f k=n at *
    by_cases hF:1099511627776≤n
    · rw[if_pos hF] at hr1 hr2
      ((try revert hK K);(repeat' (first|refine Vc (X2 @hll @eCls.eq_1) hw ?_|(refine V2 (X2 @hll @eCls.eq_1) ?_ ?_<;>try with_reducible intro hb)|(refine Xi ?_ ?_<;>try intro ht)|refine VD ?_ ?_|exact Xx|fail))<;>try with_reducible intro K hK)
      all_goals try (exfalso;omega)
      all_goals exact hnl _ (k+1,a,b,s) ⟨by dsimp only;omega,ha0,by dsimp only;omega,hr1,hr2⟩ (by dsimp only;omega) (Xv X0)
    · rw[if_neg hF] at hr1 hr2
      by_cases hs:n<s
      · rw[if_pos hs,if_pos hs] at hr1 hr2
        ((try revert hK K);(repeat' (first|refine Vc (X2 @hll @eCls.eq_1) hw ?_|(refine V2 (X2 @hll @eCls.eq_1) ?_ ?_<;>try with_reducible intro hb)|(refine Xi ?_ ?_<;>try intro ht)|refine VD ?_ ?_|exact Xx|fail))<;>try with_reducible intro K hK)
        all_goals try (exfalso;omega)
        all_goals exact hnl _ (k+1,a+1,(k:Int),n) ⟨by dsimp only;omega,by dsimp only;omega,by dsimp only;omega,hr1,hr2⟩ (by dsimp only;omega) (Xv X0)
      · rw[if_neg hs,if_neg hs] at hr1 hr2
        ((try revert hK K);(repeat' (first|refine Vc (X2 @hll @eCls.eq_1) hw ?_|(refine V2 (X2 @hll @eCls.eq_1) ?_ ?_<;>try with_reducible intro hb)|(refine Xi ?_ ?_<;>try intro ht)|refine VD ?_ ?_|exact Xx|fail))<;>try with_reducible intro K hK)
        all_goals try (exfalso;omega)
        all_goals exact hnl _ (k+1,a+1,b,s) ⟨by dsimp only;omega,by dsimp only;omega,by dsimp only;omega,hr1,hr2⟩ (by dsimp only;omega) (Xv X0)
  · rw[show l.length - k=0 by omega,posV] at hr1 hr2
    ((try revert hK K);(repeat' (first|refine Va (X2 @hll @eCls.eq_1) ?_|(refine V2 (X2 @hll @eCls.eq_1) ?_ ?_<;>try with_reducible intro hb)|(refine Xi ?_ ?_<;>try intro ht)|refine VD ?_ ?_|exact Xx|fail))<;>try with_reducible intro K hK)
    refine hel _ _ rfl ?_;clear hnl hel Ql
    repeat (first|refine Xu ?_)
    ((try revert hK K);(repeat' (first|refine Vb X0 ?_|(refine V2 X0 ?_ ?_<;>try with_reducible intro hb)|(refine Xi ?_ ?_<;>try intro ht)|refine VD ?_ ?_|exact Xx|fail))<;>try with_reducible intro K hK)
    exact RetOK_pure' rfl (by rw[← hr1,← hr2])
end T

