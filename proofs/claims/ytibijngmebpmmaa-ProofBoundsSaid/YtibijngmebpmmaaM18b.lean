import Derived.Test.YtibijngmebpmmaaM16
import Derived.Test.YtibijngmebpmmaaCB
import Derived.Test.YtibijngmebpmmaaM18a
set_option linter.unusedVariables false
set_option linter.unusedSimpArgs false
set_option linter.unnecessarySimpa false
open Go Go.Am Go.Proofs
open Nat (reduceEqDiff reduceAdd reduceLeDiff reduceMul)
open Int (reduceNeg reduceLE reduceToNat)
set_option maxRecDepth 20000
namespace T
theorem eMv_app (xs:List Mv) (a b c d:Int):rowsOf eMv xs++[[AV.lit (.int .i64 a),.lit (.int .i64 b),.lit (.int .i64 c),.lit (.int .i64 d)]]=rowsOf eMv (xs++[⟨a,b,c,d⟩]):=by simp[rowsOf,eMv]
def dmN (L:List Int) (m:Mdl) (k:Nat):Int:=(m.cls.getD (if nextV L (nextA L k) 2=0 then (m.prs.getD (nextV L k m.prs.length).toNat default).fst else (m.prs.getD (nextV L k m.prs.length).toNat default).snd).toNat default).length
def dmF1 (L:List Int) (m:Mdl) (k:Nat):Mv × Nat :=
  let v1:=nextV L k m.prs.length
  let k1:=nextA L k
  let v2:=nextV L k1 2
  let k2:=nextA L k1
  let v3:=nextV L k2 41
  let k3:=nextA L k2
  let vo:=nextV L k3 (dmN L m k)
  let k4:=nextA L k3
  let k5:=nextA L k4
  if oneV L k4 9=true then (⟨v1,v2,vo,if nextV L k5 2=0 then -268435456 else 268435456⟩,nextA L k5) else (⟨v1,v2,vo,v3 - 20⟩,k5)
def dmF (L:List Int) (m:Mdl):Nat→Nat→List Mv→List Mv × Nat
  | 0,k,l=>(l,k)
  | j+1,k,l=>if 0<m.prs.length then dmF L m j (dmF1 L m k).2 (l++[(dmF1 L m k).1]) else (l,k)
def movF (L:List Int) (m:Mdl) (most k:Nat):List Mv × Nat:=dmF L m (nextV L k (most+1)).toNat (nextA L k) []
theorem dmF1_k {L:List Int} {m:Mdl} {k:Nat} (h:k≤L.length):(dmF1 L m k).2≤L.length:=by
  unfold dmF1
  dsimp only
  split
  · exact nextA_le (nextA_le (nextA_le (nextA_le (nextA_le (nextA_le h)))))
  · exact nextA_le (nextA_le (nextA_le (nextA_le (nextA_le h))))
theorem dmF1_b {L:List Int} {m:Mdl} {k:Nat} (hm:VM m) (hsome:∀ l∈m.cls,1≤l.length) (hp:0<m.prs.length):mvB m (dmF1 L m k).1=true:=by
  have hv1:=nextV_range (L:=L) (k:=k) (n:=(m.prs.length:Int)) (by omega)
  have hv2:=nextV_range (L:=L) (k:=nextA L k) (n:=2) (by omega)
  have hv3:=nextV_range (L:=L) (k:=nextA L (nextA L k)) (n:=41) (by omega)
  have hpb:=prsL_mem hm.pr _ (getD_mem (l:=m.prs) (i:=(nextV L k m.prs.length).toNat) (d:=default) (by omega))
  obtain ⟨pb1,pb2,pb3,pb4⟩:=pairB_in hpb
  unfold dmF1 dmN
  dsimp only
  generalize nextV L (nextA L (nextA L k)) 41=v3 at *
  generalize nextV L (nextA L k) 2=v2 at *
  generalize nextV L k m.prs.length=v1 at *
  generalize hpp:m.prs.getD v1.toNat default=p at *
  generalize hcc:(if v2=0 then p.fst else p.snd)=c
  have hc:0≤c∧c<m.cls.length:=by rw[← hcc];split<;>omega
  have hcm:=getD_mem (l:=m.cls) (i:=c.toNat) (d:=default) (by omega)
  have hcl1:=hsome _ hcm
  have hv4:=nextV_range (L:=L) (k:=nextA L (nextA L (nextA L k))) (n:=((m.cls.getD c.toNat default).length:Int)) (by omega)
  have hmv:∀ a:Int,-268435456≤a∧a≤268435456→mvB m ⟨v1,v2,nextV L (nextA L (nextA L (nextA L k))) (m.cls.getD c.toNat default).length,a⟩=true:=fun a ha=>by
    unfold mvB mvC
    dsimp only
    rw[hpp,hcc,Bool.and_eq_true,decide_eq_true_eq,optB_iff]
    omega
  split
  · exact hmv _ (by split<;>omega)
  · exact hmv _ (by omega)
theorem dmF_ok {L:List Int} {m:Mdl} (hm:VM m) (hsome:∀ l∈m.cls,1≤l.length):∀ (j k:Nat) (l:List Mv),k≤L.length→(∀ x∈l,mvB m x=true) →
    (dmF L m j k l).1.length≤l.length+j∧(∀ x∈(dmF L m j k l).1,mvB m x=true)∧(dmF L m j k l).2≤L.length
  | 0,k,l,hk,h=>⟨Nat.le_refl _,h,hk⟩
  | j+1,k,l,hk,h=>by
    rw[dmF]
    split
    · rename_i hp
      have h2:=dmF_ok hm hsome j (dmF1 L m k).2 (l++[(dmF1 L m k).1]) (dmF1_k hk) (fun x hx=>by
        rcases List.mem_append.1 hx with hx | hx
        · exact h x hx
        · simp only[List.mem_singleton] at hx;subst hx;exact dmF1_b hm hsome hp)
      rw[List.length_append,List.length_singleton] at h2
      exact⟨by omega,h2.2⟩
    · exact⟨by dsimp only;omega,h,hk⟩
theorem movF_ok {L:List Int} {m:Mdl} {most k:Nat} (hm:VM m) (hsome:∀ l∈m.cls,1≤l.length) (hk:k≤L.length) :
    (movF L m most k).1.length≤most∧(∀ x∈(movF L m most k).1,mvB m x=true)∧(movF L m most k).2≤L.length:=by
  have hv:=nextV_range (L:=L) (k:=k) (n:=(most:Int)+1) (by omega)
  have h:=dmF_ok (L:=L) hm hsome (nextV L k (most+1)).toNat (nextA L k) [] (nextA_le hk) (by simp)
  rw[List.length_nil] at h
  exact⟨by have:=h.1;unfold movF;omega,h.2⟩
set_option maxHeartbeats 8000000 in
theorem movesF_ok (m:Mdl) (hm:VM m) (hsome:∀ l∈m.cls,1≤l.length) (L:List Int) (k:Nat) (most:Nat) (hmost:most≤1000) (hk:k≤L.length) (hL:L.length<1000000) :
    Holds Try.prog 70 [.ptr 0 0 0,.agg (eMdl m),.lit (.int .i64 most)] [dice L k] (.tree 4 (rowsOf eMv (movF L m most k).1)) [dice L (movF L m most k).2]:=by
  unfold dice
  generalize hres:movF L m most k=res
  unfold movF at hres
  have hp4:=hm.prs
  have hc4:=hm.cls
  have hk2:=nextA_le hk
  have hnv:=nextV_range (L:=L) (k:=k) (n:=(most:Int)+1) (by omega)
  refine Holds.of_body' (fn:=Try.f70) 72 1 [.tmp 6] Try.func70 rfl rfl rfl rfl rfl (by simp) ?_
  repeat' (first|((first|((first|refine rr ?_|refine rre ?_);intro K hK)|with_reducible refine gO ?_);simp (disch:=omega) only[Ac,↓Pc,simprocAttr])|(refine hK _ ?_;clear hK K)|(with_reducible refine gS (fun hb'=>?_) (fun hb'=>?_)<;>(have hb:=hb';(try simp only[DEc,simprocAttr] at hb);simp (disch:=omega) only[Ac,↓Pc,simprocAttr,hb'];clear hb'))|(refine Wc (fun ht=>?_) (fun ht=>?_)<;>(try simp only[DEc,simprocAttr] at ht))|refine Wz rfl ?_|(refine Wb ?_;intro Qb hnb hxb heb)|(refine Wk ?_;intro Q hn he)|((first|refine hn _ ?_|refine he _ _ rfl ?_);clear hn he;try clear Q)|((first|refine hnb _ ?_|refine hxb _ ?_|refine heb _ _ rfl ?_);clear hnb hxb heb;try clear Qb)|(refine hel _ _ rfl ?_;clear hnl hel;try clear Ql)|(simp only[Qc,Kc,simprocAttr])|with_reducible refine And.intro ?_ ?_|omega|with_reducible rfl)
  refine callK_sel [0] (next_ok L k (most+1) (by unfold In64;omega) hk hL) (by decide) ⟨rfl,trivial⟩ ⟨.eq rfl,.pure rfl,trivial⟩ ?_
  generalize nextV L k (most+1)=n at *
  generalize nextA L k=k0 at *
  repeat' (first|((first|((first|refine rr ?_|refine rre ?_);intro K hK)|with_reducible refine gO ?_);simp (disch:=omega) only[Ac,↓Pc,simprocAttr])|(refine hK _ ?_;clear hK K)|(with_reducible refine gS (fun hb'=>?_) (fun hb'=>?_)<;>(have hb:=hb';(try simp only[DEc,simprocAttr] at hb);simp (disch:=omega) only[Ac,↓Pc,simprocAttr,hb'];clear hb'))|(refine Wc (fun ht=>?_) (fun ht=>?_)<;>(try simp only[DEc,simprocAttr] at ht))|refine Wz rfl ?_|(refine Wb ?_;intro Qb hnb hxb heb)|(refine Wk ?_;intro Q hn he)|((first|refine hn _ ?_|refine he _ _ rfl ?_);clear hn he;try clear Q)|((first|refine hnb _ ?_|refine hxb _ ?_|refine heb _ _ rfl ?_);clear hnb hxb heb;try clear Qb)|(refine hel _ _ rfl ?_;clear hnl hel;try clear Ql)|(simp only[Qc,Kc,simprocAttr])|with_reducible refine And.intro ?_ ?_|omega|with_reducible rfl)
  clear hk k
  obtain ⟨n,rfl⟩:=Int.eq_ofNat_of_zero_le hnv.1
  rw[Int.toNat_natCast] at hres
  refine W_loopS (fun z:Nat × Nat × List Mv=>(⟨slots [(0,.ptr 0 0 0),(4,.ptr 1 0 0),(7,.ref 2 4 0 z.2.2.length),(8,.lit (.int .i64 z.1))],[.var [.tree 1 (ints L),.lit (.int .i64 z.2.1)],.var (eMdl m),.arr 4 (rowsOf eMv z.2.2)]⟩:St))
    (fun z=>z.2.1≤L.length∧z.2.2.length+z.1≤most∧dmF L m z.1 z.2.1 z.2.2=res) (fun z=>z.1) (n,k0,[]) ⟨hk2,by simp;omega,hres⟩ ?_ ?_
  · refine Turns.trans (Turns.nil 7 4 (by simp only[Kc,simprocAttr]) (by decide)) ?_
    (refine Turns.slots _ _ rfl ?_;simp only[Tc,↓reduceIte,reduceEqDiff,Nat.reduceBEq,reduceAdd];try trivial)
  clear hres hk2 hnv k0 n
  rintro ⟨n,k,l⟩ ⟨hk,hll,hr⟩ Ql hnl hel
  dsimp only at hk hll hr ⊢
  by_cases hgo:0<n∧0<m.prs.length
  · obtain ⟨hn0,hp0⟩:=hgo
    rw[show n=(n - 1)+1 by omega,dmF,if_pos hp0] at hr
    unfold dmF1 dmN at hr
    dsimp only at hr
    repeat' (first|((first|((fail_if_success (first|refine W_at 5 ?_|refine W_atE 5 ?_));(first|refine rr ?_|refine rre ?_);intro K hK)|with_reducible refine gO ?_);simp (disch:=omega) only[Ac,↓Pc,simprocAttr])|(refine hK _ ?_;clear hK K)|(with_reducible refine gS (fun hb'=>?_) (fun hb'=>?_)<;>(have hb:=hb';(try simp only[DEc,simprocAttr] at hb);simp (disch:=omega) only[Ac,↓Pc,simprocAttr,hb'];clear hb'))|(refine Wc (fun ht=>?_) (fun ht=>?_)<;>(try simp only[DEc,simprocAttr] at ht))|refine Wz rfl ?_|(refine Wb ?_;intro Qb hnb hxb heb)|(refine Wk ?_;intro Q hn he)|((first|refine hn _ ?_|refine he _ _ rfl ?_);clear hn he;try clear Q)|((first|refine hnb _ ?_|refine hxb _ ?_|refine heb _ _ rfl ?_);clear hnb hxb heb;try clear Qb)|(simp only[Qc,Kc,simprocAttr])|with_reducible refine And.intro ?_ ?_|omega|with_reducible rfl)
    all_goals try (exfalso;omega)
    have hv1:=nextV_range (L:=L) (k:=k) (n:=(m.prs.length:Int)) (by omega)
    have hk1:=nextA_le hk
    repeat' (first|((first|((first|refine rr ?_|refine rre ?_);intro K hK)|with_reducible refine gO ?_);simp (disch:=omega) only[Ac,↓Pc,simprocAttr])|(refine hK _ ?_;clear hK K)|(with_reducible refine gS (fun hb'=>?_) (fun hb'=>?_)<;>(have hb:=hb';(try simp only[DEc,simprocAttr] at hb);simp (disch:=omega) only[Ac,↓Pc,simprocAttr,hb'];clear hb'))|(refine Wc (fun ht=>?_) (fun ht=>?_)<;>(try simp only[DEc,simprocAttr] at ht))|refine Wz rfl ?_|(refine Wb ?_;intro Qb hnb hxb heb)|(refine Wk ?_;intro Q hn he)|((first|refine hn _ ?_|refine he _ _ rfl ?_);clear hn he;try clear Q)|((first|refine hnb _ ?_|refine hxb _ ?_|refine heb _ _ rfl ?_);clear hnb hxb heb;try clear Qb)|(simp only[Qc,Kc,simprocAttr])|with_reducible refine And.intro ?_ ?_|omega|with_reducible rfl)
    refine callK_sel [0] (next_ok L k m.prs.length (by unfold In64;omega) hk hL) (by decide) ⟨rfl,trivial⟩ ⟨.eq rfl,.pure rfl,trivial⟩ ?_
    generalize nextV L k m.prs.length=v1 at *
    generalize nextA L k=k1 at *
    have hv2:=nextV_range (L:=L) (k:=k1) (n:=2) (by omega)
    have hk2:=nextA_le hk1
    repeat' (first|((first|((first|refine rr ?_|refine rre ?_);intro K hK)|with_reducible refine gO ?_);simp (disch:=omega) only[Ac,↓Pc,simprocAttr])|(refine hK _ ?_;clear hK K)|(with_reducible refine gS (fun hb'=>?_) (fun hb'=>?_)<;>(have hb:=hb';(try simp only[DEc,simprocAttr] at hb);simp (disch:=omega) only[Ac,↓Pc,simprocAttr,hb'];clear hb'))|(refine Wc (fun ht=>?_) (fun ht=>?_)<;>(try simp only[DEc,simprocAttr] at ht))|refine Wz rfl ?_|(refine Wb ?_;intro Qb hnb hxb heb)|(refine Wk ?_;intro Q hn he)|((first|refine hn _ ?_|refine he _ _ rfl ?_);clear hn he;try clear Q)|((first|refine hnb _ ?_|refine hxb _ ?_|refine heb _ _ rfl ?_);clear hnb hxb heb;try clear Qb)|(simp only[Qc,Kc,simprocAttr])|with_reducible refine And.intro ?_ ?_|omega|with_reducible rfl)
    refine callK_sel [0] (next_ok L k1 2 (by unfold In64;omega) hk1 hL) (by decide) ⟨rfl,trivial⟩ ⟨.eq rfl,.pure rfl,trivial⟩ ?_
    generalize nextV L k1 2=v2 at *
    generalize nextA L k1=k2 at *
    have hv3:=nextV_range (L:=L) (k:=k2) (n:=41) (by omega)
    have hk3:=nextA_le hk2
    repeat' (first|((first|((first|refine rr ?_|refine rre ?_);intro K hK)|with_reducible refine gO ?_);simp (disch:=omega) only[Ac,↓Pc,simprocAttr])|(refine hK _ ?_;clear hK K)|(with_reducible refine gS (fun hb'=>?_) (fun hb'=>?_)<;>(have hb:=hb';(try simp only[DEc,simprocAttr] at hb);simp (disch:=omega) only[Ac,↓Pc,simprocAttr,hb'];clear hb'))|(refine Wc (fun ht=>?_) (fun ht=>?_)<;>(try simp only[DEc,simprocAttr] at ht))|refine Wz rfl ?_|(refine Wb ?_;intro Qb hnb hxb heb)|(refine Wk ?_;intro Q hn he)|((first|refine hn _ ?_|refine he _ _ rfl ?_);clear hn he;try clear Q)|((first|refine hnb _ ?_|refine hxb _ ?_|refine heb _ _ rfl ?_);clear hnb hxb heb;try clear Qb)|(simp only[Qc,Kc,simprocAttr])|with_reducible refine And.intro ?_ ?_|omega|with_reducible rfl)
    refine callK_sel [0] (next_ok L k2 41 (by unfold In64;omega) hk2 hL) (by decide) ⟨rfl,trivial⟩ ⟨.eq rfl,.pure rfl,trivial⟩ ?_
    generalize nextV L k2 41=v3 at *
    generalize nextA L k2=k3 at *
    have hpb:=prsL_mem hm.pr _ (getD_mem (l:=m.prs) (i:=v1.toNat) (d:=default) (by omega))
    obtain ⟨pb1,pb2,pb3,pb4⟩:=pairB_in hpb
    clear hk1 hk2 hk
    generalize hpp:m.prs.getD v1.toNat default=p at *
    generalize hcc:(if v2=0 then p.fst else p.snd)=c at *
    have hc:0≤c∧c<m.cls.length:=by rw[← hcc];split<;>omega
    have hcm:=getD_mem (l:=m.cls) (i:=c.toNat) (d:=default) (by omega)
    have hcl1:=hsome _ hcm
    have hcl2:=hm.opt _ hcm
    have hv4:=nextV_range (L:=L) (k:=k3) (n:=((m.cls.getD c.toNat default).length:Int)) (by omega)
    have hk4:=nextA_le hk3
    have hnx:=next_ok L k3 (m.cls.getD c.toNat default).length (by unfold In64;omega) hk3 hL
    generalize hvo:nextV L k3 (m.cls.getD c.toNat default).length=vo at *
    generalize nextA L k3=k4 at *
    have hv5:=nextV_range (L:=L) (k:=nextA L k4) (n:=2) (by omega)
    have hk5:=nextA_le hk4
    have hk6:=nextA_le hk5
    have hone:=one_ok L k4 9 (by unfold In64;omega) (by omega) hk4 hL
    have hn2:=next_ok L (nextA L k4) 2 (by unfold In64;omega) hk5 hL
    generalize oneV L k4 9=b9 at *
    generalize hk5e:nextA L k4=k5 at *
    generalize nextV L k5 2=v5 at *
    generalize nextA L k5=k6 at *
    have hlen2:∀ x:Mv,(l++[x]).length+(n - 1)≤most:=fun x=>by rw[List.length_append,List.length_singleton];omega
    have hn1:(n:Int) - 1=((n - 1:Nat):Int):=by omega
    by_cases hv20:v2=1
    · rw[if_neg (by omega)] at hcc
      rw[← hcc] at hcm hcl1 hcl2 hnx hv4 hc
      generalize hll2:(m.cls.getD p.snd.toNat default).length=nl at *
      have hv50:v5=0∨v5=1:=by omega
      repeat' (first|((first|((first|refine rr ?_|refine rre ?_);intro K hK)|with_reducible refine gO ?_);simp (disch:=omega) only[Ac,↓Pc,simprocAttr,hpp,hll2,ePr,eCls])|(refine hK _ ?_;clear hK K)|(with_reducible refine gS (fun hb'=>?_) (fun hb'=>?_)<;>(have hb:=hb';(try simp only[DEc,simprocAttr] at hb);simp (disch:=omega) only[Ac,↓Pc,simprocAttr,hpp,hll2,ePr,eCls,hb'];clear hb'))|(refine Wc (fun ht=>?_) (fun ht=>?_)<;>(try simp only[DEc,simprocAttr] at ht))|refine Wz rfl ?_|(refine Wb ?_;intro Qb hnb hxb heb)|(refine Wk ?_;intro Q hn he)|((first|refine hn _ ?_|refine he _ _ rfl ?_);clear hn he;try clear Q)|((first|refine hnb _ ?_|refine hxb _ ?_|refine heb _ _ rfl ?_);clear hnb hxb heb;try clear Qb)|(simp only[Qc,Kc,simprocAttr])|with_reducible refine And.intro ?_ ?_|omega|with_reducible rfl)
      all_goals try (exfalso;omega)
      refine callK_sel [0] hnx (by decide) ⟨rfl,trivial⟩ ⟨.eq rfl,.pure rfl,trivial⟩ ?_
      repeat' (first|((first|((first|refine rr ?_|refine rre ?_);intro K hK)|with_reducible refine gO ?_);simp (disch:=omega) only[Ac,↓Pc,simprocAttr])|(refine hK _ ?_;clear hK K)|(with_reducible refine gS (fun hb'=>?_) (fun hb'=>?_)<;>(have hb:=hb';(try simp only[DEc,simprocAttr] at hb);simp (disch:=omega) only[Ac,↓Pc,simprocAttr,hb'];clear hb'))|(refine Wc (fun ht=>?_) (fun ht=>?_)<;>(try simp only[DEc,simprocAttr] at ht))|refine Wz rfl ?_|(refine Wb ?_;intro Qb hnb hxb heb)|(refine Wk ?_;intro Q hn he)|((first|refine hn _ ?_|refine he _ _ rfl ?_);clear hn he;try clear Q)|((first|refine hnb _ ?_|refine hxb _ ?_|refine heb _ _ rfl ?_);clear hnb hxb heb;try clear Qb)|(simp only[Qc,Kc,simprocAttr])|with_reducible refine And.intro ?_ ?_|omega|with_reducible rfl)
      refine callK_sel [0] hone (by decide) ⟨rfl,trivial⟩ ⟨.eq rfl,.pure rfl,trivial⟩ ?_
      repeat' (first|((first|((first|refine rr ?_|refine rre ?_);intro K hK)|with_reducible refine gO ?_);simp (disch:=omega) only[Ac,↓Pc,simprocAttr,hn1,eMv_app])|(refine hK _ ?_;clear hK K)|(with_reducible refine gS (fun hb'=>?_) (fun hb'=>?_)<;>(have hb:=hb';(try simp only[DEc,simprocAttr] at hb);simp (disch:=omega) only[Ac,↓Pc,simprocAttr,hn1,eMv_app,hb'];clear hb'))|(refine Wc (fun ht=>?_) (fun ht=>?_)<;>(try simp only[DEc,simprocAttr] at ht))|refine Wz rfl ?_|(refine Wb ?_;intro Qb hnb hxb heb)|(refine Wk ?_;intro Q hn he)|((first|refine hn _ ?_|refine he _ _ rfl ?_);clear hn he;try clear Q)|((first|refine hnb _ ?_|refine hxb _ ?_|refine heb _ _ rfl ?_);clear hnb hxb heb;try clear Qb)|(simp only[Qc,Kc,simprocAttr])|with_reducible refine And.intro ?_ ?_|omega|with_reducible rfl)
      · rw[if_pos ht] at hr
        rcases hv50 with rfl | rfl
        · rw[if_pos rfl] at hr
          refine callK_sel [0] hn2 (by decide) ⟨rfl,trivial⟩ ⟨.eq rfl,.pure rfl,trivial⟩ ?_
          repeat' (first|((first|((first|refine rr ?_|refine rre ?_);intro K hK)|with_reducible refine gO ?_);simp (disch:=omega) only[Ac,↓Pc,simprocAttr,hn1,eMv_app])|(refine hK _ ?_;clear hK K)|(with_reducible refine gS (fun hb'=>?_) (fun hb'=>?_)<;>(have hb:=hb';(try simp only[DEc,simprocAttr] at hb);simp (disch:=omega) only[Ac,↓Pc,simprocAttr,hn1,eMv_app,hb'];clear hb'))|(refine Wc (fun ht=>?_) (fun ht=>?_)<;>(try simp only[DEc,simprocAttr] at ht))|refine Wz rfl ?_|(refine Wb ?_;intro Qb hnb hxb heb)|(refine Wk ?_;intro Q hn he)|((first|refine hn _ ?_|refine he _ _ rfl ?_);clear hn he;try clear Q)|((first|refine hnb _ ?_|refine hxb _ ?_|refine heb _ _ rfl ?_);clear hnb hxb heb;try clear Qb)|(simp only[Qc,Kc,simprocAttr])|with_reducible refine And.intro ?_ ?_|omega|with_reducible rfl)
          refine hnl _ (n - 1,k6,l++[⟨v1,v2,vo,-268435456⟩]) ⟨hk6,hlen2 _,hr⟩ (by dsimp only;omega) ?_
          (refine Turns.se [0,1,7] false (by simp only[Oc,simprocAttr]) ?_;simp only[Hr,↓reduceIte,reduceEqDiff,Nat.reduceBEq,reduceAdd];try (and_intros<;>first|exact .pure rfl|exact .eq rfl|exact .fz rfl (by simp only[Bc,Rc])))
        · rw[if_neg (by decide)] at hr
          refine callK_sel [0] hn2 (by decide) ⟨rfl,trivial⟩ ⟨.eq rfl,.pure rfl,trivial⟩ ?_
          repeat' (first|((first|((first|refine rr ?_|refine rre ?_);intro K hK)|with_reducible refine gO ?_);simp (disch:=omega) only[Ac,↓Pc,simprocAttr,hn1,eMv_app])|(refine hK _ ?_;clear hK K)|(with_reducible refine gS (fun hb'=>?_) (fun hb'=>?_)<;>(have hb:=hb';(try simp only[DEc,simprocAttr] at hb);simp (disch:=omega) only[Ac,↓Pc,simprocAttr,hn1,eMv_app,hb'];clear hb'))|(refine Wc (fun ht=>?_) (fun ht=>?_)<;>(try simp only[DEc,simprocAttr] at ht))|refine Wz rfl ?_|(refine Wb ?_;intro Qb hnb hxb heb)|(refine Wk ?_;intro Q hn he)|((first|refine hn _ ?_|refine he _ _ rfl ?_);clear hn he;try clear Q)|((first|refine hnb _ ?_|refine hxb _ ?_|refine heb _ _ rfl ?_);clear hnb hxb heb;try clear Qb)|(simp only[Qc,Kc,simprocAttr])|with_reducible refine And.intro ?_ ?_|omega|with_reducible rfl)
          refine hnl _ (n - 1,k6,l++[⟨v1,v2,vo,268435456⟩]) ⟨hk6,hlen2 _,hr⟩ (by dsimp only;omega) ?_
          (refine Turns.se [0,1,7] false (by simp only[Oc,simprocAttr]) ?_;simp only[Hr,↓reduceIte,reduceEqDiff,Nat.reduceBEq,reduceAdd];try (and_intros<;>first|exact .pure rfl|exact .eq rfl|exact .fz rfl (by simp only[Bc,Rc])))
      · rw[if_neg (by simp[ht])] at hr
        refine hnl _ (n - 1,k5,l++[⟨v1,v2,vo,v3 - 20⟩]) ⟨hk5,hlen2 _,hr⟩ (by dsimp only;omega) ?_
        (refine Turns.se [0,1,6] false (by simp only[Oc,simprocAttr]) ?_;simp only[Hr,↓reduceIte,reduceEqDiff,Nat.reduceBEq,reduceAdd];try (and_intros<;>first|exact .pure rfl|exact .eq rfl|exact .fz rfl (by simp only[Bc,Rc])))
    · rw[if_pos (by omega)] at hcc
      rw[← hcc] at hcm hcl1 hcl2 hnx hv4 hc
      generalize hll2:(m.cls.getD p.fst.toNat default).length=nl at *
      have hv50:v5=0∨v5=1:=by omega
      repeat' (first|((first|((first|refine rr ?_|refine rre ?_);intro K hK)|with_reducible refine gO ?_);simp (disch:=omega) only[Ac,↓Pc,simprocAttr,hpp,hll2,ePr,eCls])|(refine hK _ ?_;clear hK K)|(with_reducible refine gS (fun hb'=>?_) (fun hb'=>?_)<;>(have hb:=hb';(try simp only[DEc,simprocAttr] at hb);simp (disch:=omega) only[Ac,↓Pc,simprocAttr,hpp,hll2,ePr,eCls,hb'];clear hb'))|(refine Wc (fun ht=>?_) (fun ht=>?_)<;>(try simp only[DEc,simprocAttr] at ht))|refine Wz rfl ?_|(refine Wb ?_;intro Qb hnb hxb heb)|(refine Wk ?_;intro Q hn he)|((first|refine hn _ ?_|refine he _ _ rfl ?_);clear hn he;try clear Q)|((first|refine hnb _ ?_|refine hxb _ ?_|refine heb _ _ rfl ?_);clear hnb hxb heb;try clear Qb)|(simp only[Qc,Kc,simprocAttr])|with_reducible refine And.intro ?_ ?_|omega|with_reducible rfl)
      all_goals try (exfalso;omega)
      refine callK_sel [0] hnx (by decide) ⟨rfl,trivial⟩ ⟨.eq rfl,.pure rfl,trivial⟩ ?_
      repeat' (first|((first|((first|refine rr ?_|refine rre ?_);intro K hK)|with_reducible refine gO ?_);simp (disch:=omega) only[Ac,↓Pc,simprocAttr])|(refine hK _ ?_;clear hK K)|(with_reducible refine gS (fun hb'=>?_) (fun hb'=>?_)<;>(have hb:=hb';(try simp only[DEc,simprocAttr] at hb);simp (disch:=omega) only[Ac,↓Pc,simprocAttr,hb'];clear hb'))|(refine Wc (fun ht=>?_) (fun ht=>?_)<;>(try simp only[DEc,simprocAttr] at ht))|refine Wz rfl ?_|(refine Wb ?_;intro Qb hnb hxb heb)|(refine Wk ?_;intro Q hn he)|((first|refine hn _ ?_|refine he _ _ rfl ?_);clear hn he;try clear Q)|((first|refine hnb _ ?_|refine hxb _ ?_|refine heb _ _ rfl ?_);clear hnb hxb heb;try clear Qb)|(simp only[Qc,Kc,simprocAttr])|with_reducible refine And.intro ?_ ?_|omega|with_reducible rfl)
      refine callK_sel [0] hone (by decide) ⟨rfl,trivial⟩ ⟨.eq rfl,.pure rfl,trivial⟩ ?_
      repeat' (first|((first|((first|refine rr ?_|refine rre ?_);intro K hK)|with_reducible refine gO ?_);simp (disch:=omega) only[Ac,↓Pc,simprocAttr,hn1,eMv_app])|(refine hK _ ?_;clear hK K)|(with_reducible refine gS (fun hb'=>?_) (fun hb'=>?_)<;>(have hb:=hb';(try simp only[DEc,simprocAttr] at hb);simp (disch:=omega) only[Ac,↓Pc,simprocAttr,hn1,eMv_app,hb'];clear hb'))|(refine Wc (fun ht=>?_) (fun ht=>?_)<;>(try simp only[DEc,simprocAttr] at ht))|refine Wz rfl ?_|(refine Wb ?_;intro Qb hnb hxb heb)|(refine Wk ?_;intro Q hn he)|((first|refine hn _ ?_|refine he _ _ rfl ?_);clear hn he;try clear Q)|((first|refine hnb _ ?_|refine hxb _ ?_|refine heb _ _ rfl ?_);clear hnb hxb heb;try clear Qb)|(simp only[Qc,Kc,simprocAttr])|with_reducible refine And.intro ?_ ?_|omega|with_reducible rfl)
      · rw[if_pos ht] at hr
        rcases hv50 with rfl | rfl
        · rw[if_pos rfl] at hr
          refine callK_sel [0] hn2 (by decide) ⟨rfl,trivial⟩ ⟨.eq rfl,.pure rfl,trivial⟩ ?_
          repeat' (first|((first|((first|refine rr ?_|refine rre ?_);intro K hK)|with_reducible refine gO ?_);simp (disch:=omega) only[Ac,↓Pc,simprocAttr,hn1,eMv_app])|(refine hK _ ?_;clear hK K)|(with_reducible refine gS (fun hb'=>?_) (fun hb'=>?_)<;>(have hb:=hb';(try simp only[DEc,simprocAttr] at hb);simp (disch:=omega) only[Ac,↓Pc,simprocAttr,hn1,eMv_app,hb'];clear hb'))|(refine Wc (fun ht=>?_) (fun ht=>?_)<;>(try simp only[DEc,simprocAttr] at ht))|refine Wz rfl ?_|(refine Wb ?_;intro Qb hnb hxb heb)|(refine Wk ?_;intro Q hn he)|((first|refine hn _ ?_|refine he _ _ rfl ?_);clear hn he;try clear Q)|((first|refine hnb _ ?_|refine hxb _ ?_|refine heb _ _ rfl ?_);clear hnb hxb heb;try clear Qb)|(simp only[Qc,Kc,simprocAttr])|with_reducible refine And.intro ?_ ?_|omega|with_reducible rfl)
          refine hnl _ (n - 1,k6,l++[⟨v1,v2,vo,-268435456⟩]) ⟨hk6,hlen2 _,hr⟩ (by dsimp only;omega) ?_
          (refine Turns.se [0,1,7] false (by simp only[Oc,simprocAttr]) ?_;simp only[Hr,↓reduceIte,reduceEqDiff,Nat.reduceBEq,reduceAdd];try (and_intros<;>first|exact .pure rfl|exact .eq rfl|exact .fz rfl (by simp only[Bc,Rc])))
        · rw[if_neg (by decide)] at hr
          refine callK_sel [0] hn2 (by decide) ⟨rfl,trivial⟩ ⟨.eq rfl,.pure rfl,trivial⟩ ?_
          repeat' (first|((first|((first|refine rr ?_|refine rre ?_);intro K hK)|with_reducible refine gO ?_);simp (disch:=omega) only[Ac,↓Pc,simprocAttr,hn1,eMv_app])|(refine hK _ ?_;clear hK K)|(with_reducible refine gS (fun hb'=>?_) (fun hb'=>?_)<;>(have hb:=hb';(try simp only[DEc,simprocAttr] at hb);simp (disch:=omega) only[Ac,↓Pc,simprocAttr,hn1,eMv_app,hb'];clear hb'))|(refine Wc (fun ht=>?_) (fun ht=>?_)<;>(try simp only[DEc,simprocAttr] at ht))|refine Wz rfl ?_|(refine Wb ?_;intro Qb hnb hxb heb)|(refine Wk ?_;intro Q hn he)|((first|refine hn _ ?_|refine he _ _ rfl ?_);clear hn he;try clear Q)|((first|refine hnb _ ?_|refine hxb _ ?_|refine heb _ _ rfl ?_);clear hnb hxb heb;try clear Qb)|(simp only[Qc,Kc,simprocAttr])|with_reducible refine And.intro ?_ ?_|omega|with_reducible rfl)
          refine hnl _ (n - 1,k6,l++[⟨v1,v2,vo,268435456⟩]) ⟨hk6,hlen2 _,hr⟩ (by dsimp only;omega) ?_
          (refine Turns.se [0,1,7] false (by simp only[Oc,simprocAttr]) ?_;simp only[Hr,↓reduceIte,reduceEqDiff,Nat.reduceBEq,reduceAdd];try (and_intros<;>first|exact .pure rfl|exact .eq rfl|exact .fz rfl (by simp only[Bc,Rc])))
      · rw[if_neg (by simp[ht])] at hr
        refine hnl _ (n - 1,k5,l++[⟨v1,v2,vo,v3 - 20⟩]) ⟨hk5,hlen2 _,hr⟩ (by dsimp only;omega) ?_
        (refine Turns.se [0,1,6] false (by simp only[Oc,simprocAttr]) ?_;simp only[Hr,↓reduceIte,reduceEqDiff,Nat.reduceBEq,reduceAdd];try (and_intros<;>first|exact .pure rfl|exact .eq rfl|exact .fz rfl (by simp only[Bc,Rc])))
  · repeat' (first|((first|((first|refine rr ?_|refine rre ?_);intro K hK)|with_reducible refine gO ?_);simp (disch:=omega) only[Ac,↓Pc,simprocAttr])|(refine hK _ ?_;clear hK K)|(with_reducible refine gS (fun hb'=>?_) (fun hb'=>?_)<;>(have hb:=hb';(try simp only[DEc,simprocAttr] at hb);simp (disch:=omega) only[Ac,↓Pc,simprocAttr,hb'];clear hb'))|(refine Wc (fun ht=>?_) (fun ht=>?_)<;>(try simp only[DEc,simprocAttr] at ht))|refine Wz rfl ?_|(refine Wb ?_;intro Qb hnb hxb heb)|(refine Wk ?_;intro Q hn he)|((first|refine hn _ ?_|refine he _ _ rfl ?_);clear hn he;try clear Q)|((first|refine hnb _ ?_|refine hxb _ ?_|refine heb _ _ rfl ?_);clear hnb hxb heb;try clear Qb)|(simp only[Qc,Kc,simprocAttr])|with_reducible refine And.intro ?_ ?_|omega|with_reducible rfl)
    all_goals try (exfalso;omega)
    all_goals
      have hr:(l,k)=res:=by
        cases n with
        | zero=>rw[dmF] at hr;exact hr
        | succ j=>rw[dmF,if_neg (by omega)] at hr;exact hr
      refine hel _ _ rfl ?_;clear hnl hel Ql
      repeat (first|((first|refine hn _ ?_|refine he _ _ rfl ?_);clear hn he;try clear Q)|((first|refine hnb _ ?_|refine hxb _ ?_|refine heb _ _ rfl ?_);clear hnb hxb heb;try clear Qb)|(refine hel _ _ rfl ?_;clear hnl hel;try clear Ql))
      repeat' (first|((first|((first|refine rr ?_|refine rre ?_);intro K hK)|with_reducible refine gO ?_);simp (disch:=omega) only[Ac,↓Pc,simprocAttr])|(refine hK _ ?_;clear hK K)|(with_reducible refine gS (fun hb'=>?_) (fun hb'=>?_)<;>(have hb:=hb';(try simp only[DEc,simprocAttr] at hb);simp (disch:=omega) only[Ac,↓Pc,simprocAttr,hb'];clear hb'))|(refine Wc (fun ht=>?_) (fun ht=>?_)<;>(try simp only[DEc,simprocAttr] at ht))|refine Wz rfl ?_|(refine Wb ?_;intro Qb hnb hxb heb)|(refine Wk ?_;intro Q hn he)|((first|refine hn _ ?_|refine he _ _ rfl ?_);clear hn he;try clear Q)|((first|refine hnb _ ?_|refine hxb _ ?_|refine heb _ _ rfl ?_);clear hnb hxb heb;try clear Qb)|(refine hel _ _ rfl ?_;clear hnl hel;try clear Ql)|(simp only[Qc,Kc,simprocAttr])|with_reducible refine And.intro ?_ ?_|omega|with_reducible rfl)
      rw[← hr]
      (refine RetOK_se [0] true (by simp only[Oc,simprocAttr]) ?_;first|exact .pure rfl|exact .eq rfl|exact .fz rfl (by simp only[Bc,Rc]))
end T

