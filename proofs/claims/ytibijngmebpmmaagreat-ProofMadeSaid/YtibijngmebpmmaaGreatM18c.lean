import Derived.Test.YtibijngmebpmmaaGreatM18b
set_option linter.unusedVariables false
set_option linter.unusedSimpArgs false
set_option linter.unnecessarySimpa false
open Go Go.Am Go.Proofs
open Nat (reduceEqDiff reduceAdd reduceLeDiff reduceMul)
open Int (reduceNeg reduceLE reduceToNat)
set_option maxRecDepth 20000
namespace T
set_option maxHeartbeats 8000000 in
theorem movesO_ok (m:Mdl) (hm:VM m) (hsome:∀ l∈m.cls,1≤l.length) (L:List Int) (k:Nat) (most:Nat) (hmost:most≤1000) (hk:k≤L.length) (hL:L.length<1000000) :
    Holds Tryz.prog 27 [.ptr 0 0 0,.agg (eMdl m),.lit (.int .i64 most)] [dice L k] (.ref 1 4 0 (movF L m most k).1.length) [dice L (movF L m most k).2,.arr 4 (rowsOf eMv (movF L m most k).1)]:=by
  unfold dice
  generalize hres:movF L m most k=res
  unfold movF at hres
  have hp4:=hm.prs
  have hc4:=hm.cls
  have hk2:=nextA_le hk
  have hnv:=nextV_range (L:=L) (k:=k) (n:=(most:Int)+1) (by omega)
  refine Holds.of_body' (fn:=Tryz.f27) 72 1 [.tmp 6] Tryz.func27 rfl rfl rfl rfl rfl (by simp) ?_
  repeat' (first|(refine Xr X0 ?_;intro K hK)|refine Xo X0 ?_|(refine hK _ ?_;clear hK K)|(refine Xg X0 ?_ ?_<;>try intro hb)|(refine Xi ?_ ?_<;>try intro ht)|refine Xz ?_|refine Xh ?_|refine Xe ?_|refine Xd ?_ ?_|omega|with_reducible rfl|exact trivial)
  refine callK_sel [0] (next_ok L k (most+1) (by unfold In64;omega) hk hL) (by decide) ⟨rfl,trivial⟩ ⟨.eq rfl,.pure rfl,trivial⟩ ?_
  generalize nextV L k (most+1)=n at *
  generalize nextA L k=k0 at *
  repeat' (first|(refine Xr X0 ?_;intro K hK)|refine Xo X0 ?_|(refine hK _ ?_;clear hK K)|(refine Xg X0 ?_ ?_<;>try intro hb)|(refine Xi ?_ ?_<;>try intro ht)|refine Xz ?_|refine Xh ?_|refine Xe ?_|refine Xd ?_ ?_|omega|with_reducible rfl|exact trivial)
  clear hk k
  obtain ⟨n,rfl⟩:=Int.eq_ofNat_of_zero_le hnv.1
  rw[Int.toNat_natCast] at hres
  refine W_loopS (fun z:Nat × Nat × List Mv=>(⟨slots [(0,.ptr 0 0 0),(4,.ptr 1 0 0),(7,.ref 2 4 0 z.2.2.length),(8,.lit (.int .i64 z.1))],[.var [.tree 1 (ints L),.lit (.int .i64 z.2.1)],.var (eMdl m),.arr 4 (rowsOf eMv z.2.2)]⟩:St))
    (fun z=>z.2.1≤L.length∧z.2.2.length+z.1≤most∧dmF L m z.1 z.2.1 z.2.2=res) (fun z=>z.1) (n,k0,[]) ⟨hk2,by simp;omega,hres⟩ ?_ ?_
  · refine Turns.trans (Turns.nil 7 4 (by simp only[Kc,simprocAttr]) (by decide)) ?_
    exact Xv X0
  clear hres hk2 hnv k0 n
  rintro ⟨n,k,l⟩ ⟨hk,hll,hr⟩ Ql hnl hel
  dsimp only at hk hll hr ⊢
  by_cases hgo:0<n∧0<m.prs.length
  · obtain ⟨hn0,hp0⟩:=hgo
    rw[show n=(n - 1)+1 by omega,dmF,if_pos hp0] at hr
    unfold dmF1 dmN at hr
    dsimp only at hr
    repeat' (first|((fail_if_success (first|refine W_at 5 ?_|refine W_atE 5 ?_));refine Xr X0 ?_;intro K hK)|refine Xo X0 ?_|(refine hK _ ?_;clear hK K)|(refine Xg X0 ?_ ?_<;>try intro hb)|(refine Xi ?_ ?_<;>try intro ht)|refine Xz ?_|refine Xe ?_|refine Xd ?_ ?_|omega|with_reducible rfl|exact trivial)
    all_goals try (exfalso;omega)
    have hv1:=nextV_range (L:=L) (k:=k) (n:=(m.prs.length:Int)) (by omega)
    have hk1:=nextA_le hk
    repeat' (first|(refine Xr X0 ?_;intro K hK)|refine Xo X0 ?_|(refine hK _ ?_;clear hK K)|(refine Xg X0 ?_ ?_<;>try intro hb)|(refine Xi ?_ ?_<;>try intro ht)|refine Xz ?_|refine Xe ?_|refine Xd ?_ ?_|omega|with_reducible rfl|exact trivial)
    refine callK_sel [0] (next_ok L k m.prs.length (by unfold In64;omega) hk hL) (by decide) ⟨rfl,trivial⟩ ⟨.eq rfl,.pure rfl,trivial⟩ ?_
    generalize nextV L k m.prs.length=v1 at *
    generalize nextA L k=k1 at *
    have hv2:=nextV_range (L:=L) (k:=k1) (n:=2) (by omega)
    have hk2:=nextA_le hk1
    repeat' (first|(refine Xr X0 ?_;intro K hK)|refine Xo X0 ?_|(refine hK _ ?_;clear hK K)|(refine Xg X0 ?_ ?_<;>try intro hb)|(refine Xi ?_ ?_<;>try intro ht)|refine Xz ?_|refine Xe ?_|refine Xd ?_ ?_|omega|with_reducible rfl|exact trivial)
    refine callK_sel [0] (next_ok L k1 2 (by unfold In64;omega) hk1 hL) (by decide) ⟨rfl,trivial⟩ ⟨.eq rfl,.pure rfl,trivial⟩ ?_
    generalize nextV L k1 2=v2 at *
    generalize nextA L k1=k2 at *
    have hv3:=nextV_range (L:=L) (k:=k2) (n:=41) (by omega)
    have hk3:=nextA_le hk2
    repeat' (first|(refine Xr X0 ?_;intro K hK)|refine Xo X0 ?_|(refine hK _ ?_;clear hK K)|(refine Xg X0 ?_ ?_<;>try intro hb)|(refine Xi ?_ ?_<;>try intro ht)|refine Xz ?_|refine Xe ?_|refine Xd ?_ ?_|omega|with_reducible rfl|exact trivial)
    refine callK_sel [0] (next_ok L k2 41 (by unfold In64;omega) hk2 hL) (by decide) ⟨rfl,trivial⟩ ⟨.eq rfl,.pure rfl,trivial⟩ ?_
    generalize nextV L k2 41=v3 at *
    generalize nextA L k2=k3 at *
    have hpb:=prsL_mem hm.pr _ (getD_mem (l:=m.prs) (i:=v1.toNat) (d:=default) (by omega))
    obtain ⟨pb1,pb2,pb3,pb4⟩:=pairB_in hpb
    clear hk1 hk2 hk
    generalize hpp:m.prs.getD v1.toNat default=p at *
    generalize hcc:(if v2=0 then p.fst else p.snd)=c at *
    have hc:0≤c∧c<m.cls.length:=by rw[← hcc];split<;>omega
    have hcm:=getD_mem (l:=m.cls) (i:=c.toNat) (d:=default) (by omega)
    have hcl1:=hsome _ hcm
    have hcl2:=hm.opt _ hcm
    have hv4:=nextV_range (L:=L) (k:=k3) (n:=((m.cls.getD c.toNat default).length:Int)) (by omega)
    have hk4:=nextA_le hk3
    have hnx:=next_ok L k3 (m.cls.getD c.toNat default).length (by unfold In64;omega) hk3 hL
    generalize hvo:nextV L k3 (m.cls.getD c.toNat default).length=vo at *
    generalize nextA L k3=k4 at *
    have hv5:=nextV_range (L:=L) (k:=nextA L k4) (n:=2) (by omega)
    have hk5:=nextA_le hk4
    have hk6:=nextA_le hk5
    have hone:=one_ok L k4 9 (by unfold In64;omega) (by omega) hk4 hL
    have hn2:=next_ok L (nextA L k4) 2 (by unfold In64;omega) hk5 hL
    generalize oneV L k4 9=b9 at *
    generalize hk5e:nextA L k4=k5 at *
    generalize nextV L k5 2=v5 at *
    generalize nextA L k5=k6 at *
    have hlen2:∀ x:Mv,(l++[x]).length+(n - 1)≤most:=fun x=>by rw[List.length_append,List.length_singleton];omega
    have hn1:(n:Int) - 1=((n - 1:Nat):Int):=by omega
    by_cases hv20:v2=1
    · rw[if_neg (by omega)] at hcc
      rw[← hcc] at hcm hcl1 hcl2 hnx hv4 hc
      generalize hll2:(m.cls.getD p.snd.toNat default).length=nl at *
      have hv50:v5=0∨v5=1:=by omega
      repeat' (first|(refine Xr (X4 @hpp @hll2 @ePr.eq_1 @eCls.eq_1) ?_;intro K hK)|refine Xo (X4 @hpp @hll2 @ePr.eq_1 @eCls.eq_1) ?_|(refine hK _ ?_;clear hK K)|(refine Xg (X4 @hpp @hll2 @ePr.eq_1 @eCls.eq_1) ?_ ?_<;>try intro hb)|(refine Xi ?_ ?_<;>try intro ht)|refine Xz ?_|refine Xe ?_|refine Xd ?_ ?_|omega|with_reducible rfl|exact trivial)
      all_goals try (exfalso;omega)
      refine callK_sel [0] hnx (by decide) ⟨rfl,trivial⟩ ⟨.eq rfl,.pure rfl,trivial⟩ ?_
      repeat' (first|(refine Xr X0 ?_;intro K hK)|refine Xo X0 ?_|(refine hK _ ?_;clear hK K)|(refine Xg X0 ?_ ?_<;>try intro hb)|(refine Xi ?_ ?_<;>try intro ht)|refine Xz ?_|refine Xe ?_|refine Xd ?_ ?_|omega|with_reducible rfl|exact trivial)
      refine callK_sel [0] hone (by decide) ⟨rfl,trivial⟩ ⟨.eq rfl,.pure rfl,trivial⟩ ?_
      repeat' (first|(refine Xr (X2 @hn1 @eMv_app) ?_;intro K hK)|refine Xo (X2 @hn1 @eMv_app) ?_|(refine hK _ ?_;clear hK K)|(refine Xg (X2 @hn1 @eMv_app) ?_ ?_<;>try intro hb)|(refine Xi ?_ ?_<;>try intro ht)|refine Xz ?_|refine Xe ?_|refine Xd ?_ ?_|omega|with_reducible rfl|exact trivial)
      · rw[if_pos ht] at hr
        rcases hv50 with rfl | rfl
        · rw[if_pos rfl] at hr
          refine callK_sel [0] hn2 (by decide) ⟨rfl,trivial⟩ ⟨.eq rfl,.pure rfl,trivial⟩ ?_
          repeat' (first|(refine Xr (X2 @hn1 @eMv_app) ?_;intro K hK)|refine Xo (X2 @hn1 @eMv_app) ?_|(refine hK _ ?_;clear hK K)|(refine Xg (X2 @hn1 @eMv_app) ?_ ?_<;>try intro hb)|(refine Xi ?_ ?_<;>try intro ht)|refine Xz ?_|refine Xe ?_|refine Xd ?_ ?_|omega|with_reducible rfl|exact trivial)
          refine hnl _ (n - 1,k6,l++[⟨v1,v2,vo,-268435456⟩]) ⟨hk6,hlen2 _,hr⟩ (by dsimp only;omega) ?_
          exact Xs false [0,1,7] X0
        · rw[if_neg (by decide)] at hr
          refine callK_sel [0] hn2 (by decide) ⟨rfl,trivial⟩ ⟨.eq rfl,.pure rfl,trivial⟩ ?_
          repeat' (first|(refine Xr (X2 @hn1 @eMv_app) ?_;intro K hK)|refine Xo (X2 @hn1 @eMv_app) ?_|(refine hK _ ?_;clear hK K)|(refine Xg (X2 @hn1 @eMv_app) ?_ ?_<;>try intro hb)|(refine Xi ?_ ?_<;>try intro ht)|refine Xz ?_|refine Xe ?_|refine Xd ?_ ?_|omega|with_reducible rfl|exact trivial)
          refine hnl _ (n - 1,k6,l++[⟨v1,v2,vo,268435456⟩]) ⟨hk6,hlen2 _,hr⟩ (by dsimp only;omega) ?_
          exact Xs false [0,1,7] X0
      · rw[if_neg (by simp[ht])] at hr
        refine hnl _ (n - 1,k5,l++[⟨v1,v2,vo,v3 - 20⟩]) ⟨hk5,hlen2 _,hr⟩ (by dsimp only;omega) ?_
        exact Xs false [0,1,6] X0
    · rw[if_pos (by omega)] at hcc
      rw[← hcc] at hcm hcl1 hcl2 hnx hv4 hc
      generalize hll2:(m.cls.getD p.fst.toNat default).length=nl at *
      have hv50:v5=0∨v5=1:=by omega
      repeat' (first|(refine Xr (X4 @hpp @hll2 @ePr.eq_1 @eCls.eq_1) ?_;intro K hK)|refine Xo (X4 @hpp @hll2 @ePr.eq_1 @eCls.eq_1) ?_|(refine hK _ ?_;clear hK K)|(refine Xg (X4 @hpp @hll2 @ePr.eq_1 @eCls.eq_1) ?_ ?_<;>try intro hb)|(refine Xi ?_ ?_<;>try intro ht)|refine Xz ?_|refine Xe ?_|refine Xd ?_ ?_|omega|with_reducible rfl|exact trivial)
      all_goals try (exfalso;omega)
      refine callK_sel [0] hnx (by decide) ⟨rfl,trivial⟩ ⟨.eq rfl,.pure rfl,trivial⟩ ?_
      repeat' (first|(refine Xr X0 ?_;intro K hK)|refine Xo X0 ?_|(refine hK _ ?_;clear hK K)|(refine Xg X0 ?_ ?_<;>try intro hb)|(refine Xi ?_ ?_<;>try intro ht)|refine Xz ?_|refine Xe ?_|refine Xd ?_ ?_|omega|with_reducible rfl|exact trivial)
      refine callK_sel [0] hone (by decide) ⟨rfl,trivial⟩ ⟨.eq rfl,.pure rfl,trivial⟩ ?_
      repeat' (first|(refine Xr (X2 @hn1 @eMv_app) ?_;intro K hK)|refine Xo (X2 @hn1 @eMv_app) ?_|(refine hK _ ?_;clear hK K)|(refine Xg (X2 @hn1 @eMv_app) ?_ ?_<;>try intro hb)|(refine Xi ?_ ?_<;>try intro ht)|refine Xz ?_|refine Xe ?_|refine Xd ?_ ?_|omega|with_reducible rfl|exact trivial)
      · rw[if_pos ht] at hr
        rcases hv50 with rfl | rfl
        · rw[if_pos rfl] at hr
          refine callK_sel [0] hn2 (by decide) ⟨rfl,trivial⟩ ⟨.eq rfl,.pure rfl,trivial⟩ ?_
          repeat' (first|(refine Xr (X2 @hn1 @eMv_app) ?_;intro K hK)|refine Xo (X2 @hn1 @eMv_app) ?_|(refine hK _ ?_;clear hK K)|(refine Xg (X2 @hn1 @eMv_app) ?_ ?_<;>try intro hb)|(refine Xi ?_ ?_<;>try intro ht)|refine Xz ?_|refine Xe ?_|refine Xd ?_ ?_|omega|with_reducible rfl|exact trivial)
          refine hnl _ (n - 1,k6,l++[⟨v1,v2,vo,-268435456⟩]) ⟨hk6,hlen2 _,hr⟩ (by dsimp only;omega) ?_
          exact Xs false [0,1,7] X0
        · rw[if_neg (by decide)] at hr
          refine callK_sel [0] hn2 (by decide) ⟨rfl,trivial⟩ ⟨.eq rfl,.pure rfl,trivial⟩ ?_
          repeat' (first|(refine Xr (X2 @hn1 @eMv_app) ?_;intro K hK)|refine Xo (X2 @hn1 @eMv_app) ?_|(refine hK _ ?_;clear hK K)|(refine Xg (X2 @hn1 @eMv_app) ?_ ?_<;>try intro hb)|(refine Xi ?_ ?_<;>try intro ht)|refine Xz ?_|refine Xe ?_|refine Xd ?_ ?_|omega|with_reducible rfl|exact trivial)
          refine hnl _ (n - 1,k6,l++[⟨v1,v2,vo,268435456⟩]) ⟨hk6,hlen2 _,hr⟩ (by dsimp only;omega) ?_
          exact Xs false [0,1,7] X0
      · rw[if_neg (by simp[ht])] at hr
        refine hnl _ (n - 1,k5,l++[⟨v1,v2,vo,v3 - 20⟩]) ⟨hk5,hlen2 _,hr⟩ (by dsimp only;omega) ?_
        exact Xs false [0,1,6] X0
  · repeat' (first|(refine Xr X0 ?_;intro K hK)|refine Xo X0 ?_|(refine hK _ ?_;clear hK K)|(refine Xg X0 ?_ ?_<;>try intro hb)|(refine Xi ?_ ?_<;>try intro ht)|refine Xz ?_|refine Xe ?_|refine Xd ?_ ?_|omega|with_reducible rfl|exact trivial)
    all_goals try (exfalso;omega)
    all_goals
      have hr:(l,k)=res:=by
        cases n with
        | zero=>rw[dmF] at hr;exact hr
        | succ j=>rw[dmF,if_neg (by omega)] at hr;exact hr
      refine hel _ _ rfl ?_;clear hnl hel Ql
      repeat (first|refine Xu ?_)
      repeat' (first|(refine Xr X0 ?_;intro K hK)|refine Xo X0 ?_|(refine hK _ ?_;clear hK K)|(refine Xg X0 ?_ ?_<;>try intro hb)|(refine Xi ?_ ?_<;>try intro ht)|refine Xz ?_|refine Xh ?_|refine Xe ?_|refine Xd ?_ ?_|omega|with_reducible rfl|exact trivial)
      rw[← hr]
      exact Xw false [0,2] X0
end T

