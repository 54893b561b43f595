import Derived.Test.YtibijngmebpmmaaGreatM16
import Derived.Test.YtibijngmebpmmaaGreatCB
import Derived.Test.YtibijngmebpmmaaGreatM18a
set_option linter.unusedVariables false
set_option linter.unusedSimpArgs false
set_option linter.unnecessarySimpa false
open Go Go.Am Go.Proofs
open Nat (reduceEqDiff reduceAdd reduceLeDiff reduceMul)
open Int (reduceNeg reduceLE reduceToNat)
set_option maxRecDepth 20000
namespace T
theorem eMv_app (xs:List Mv) (a b c d:Int):rowsOf eMv xs++[[AV.lit (.int .i64 a),.lit (.int .i64 b),.lit (.int .i64 c),.lit (.int .i64 d)]]=rowsOf eMv (xs++[⟨a,b,c,d⟩]):=by simp[rowsOf,eMv]
def dmN (L:List Int) (m:Mdl) (k:Nat):Int:=(m.cls.getD (if nextV L (nextA L k) 2=0 then (m.prs.getD (nextV L k m.prs.length).toNat default).fst else (m.prs.getD (nextV L k m.prs.length).toNat default).snd).toNat default).length
def dmF1 (L:List Int) (m:Mdl) (k:Nat):Mv × Nat :=
  let v1:=nextV L k m.prs.length
  let k1:=nextA L k
  let v2:=nextV L k1 2
  let k2:=nextA L k1
  let v3:=nextV L k2 41
  let k3:=nextA L k2
  let vo:=nextV L k3 (dmN L m k)
  let k4:=nextA L k3
  let k5:=nextA L k4
  if oneV L k4 9=true then (⟨v1,v2,vo,if nextV L k5 2=0 then -268435456 else 268435456⟩,nextA L k5) else (⟨v1,v2,vo,v3 - 20⟩,k5)
def dmF (L:List Int) (m:Mdl):Nat→Nat→List Mv→List Mv × Nat
  | 0,k,l=>(l,k)
  | j+1,k,l=>if 0<m.prs.length then dmF L m j (dmF1 L m k).2 (l++[(dmF1 L m k).1]) else (l,k)
def movF (L:List Int) (m:Mdl) (most k:Nat):List Mv × Nat:=dmF L m (nextV L k (most+1)).toNat (nextA L k) []
theorem dmF1_k {L:List Int} {m:Mdl} {k:Nat} (h:k≤L.length):(dmF1 L m k).2≤L.length:=by
  unfold dmF1
  dsimp only
  split
  · exact nextA_le (nextA_le (nextA_le (nextA_le (nextA_le (nextA_le h)))))
  · exact nextA_le (nextA_le (nextA_le (nextA_le (nextA_le h))))
theorem dmF1_b {L:List Int} {m:Mdl} {k:Nat} (hm:VM m) (hsome:∀ l∈m.cls,1≤l.length) (hp:0<m.prs.length):mvB m (dmF1 L m k).1=true:=by
  have hv1:=nextV_range (L:=L) (k:=k) (n:=(m.prs.length:Int)) (by omega)
  have hv2:=nextV_range (L:=L) (k:=nextA L k) (n:=2) (by omega)
  have hv3:=nextV_range (L:=L) (k:=nextA L (nextA L k)) (n:=41) (by omega)
  have hpb:=prsL_mem hm.pr _ (getD_mem (l:=m.prs) (i:=(nextV L k m.prs.length).toNat) (d:=default) (by omega))
  obtain ⟨pb1,pb2,pb3,pb4⟩:=pairB_in hpb
  unfold dmF1 dmN
  dsimp only
  generalize nextV L (nextA L (nextA L k)) 41=v3 at *
  generalize nextV L (nextA L k) 2=v2 at *
  generalize nextV L k m.prs.length=v1 at *
  generalize hpp:m.prs.getD v1.toNat default=p at *
  generalize hcc:(if v2=0 then p.fst else p.snd)=c
  have hc:0≤c∧c<m.cls.length:=by rw[← hcc];split<;>omega
  have hcm:=getD_mem (l:=m.cls) (i:=c.toNat) (d:=default) (by omega)
  have hcl1:=hsome _ hcm
  have hv4:=nextV_range (L:=L) (k:=nextA L (nextA L (nextA L k))) (n:=((m.cls.getD c.toNat default).length:Int)) (by omega)
  have hmv:∀ a:Int,-268435456≤a∧a≤268435456→mvB m ⟨v1,v2,nextV L (nextA L (nextA L (nextA L k))) (m.cls.getD c.toNat default).length,a⟩=true:=fun a ha=>by
    unfold mvB mvC
    dsimp only
    rw[hpp,hcc,Bool.and_eq_true,decide_eq_true_eq,optB_iff]
    omega
  split
  · exact hmv _ (by split<;>omega)
  · exact hmv _ (by omega)
theorem dmF_ok {L:List Int} {m:Mdl} (hm:VM m) (hsome:∀ l∈m.cls,1≤l.length):∀ (j k:Nat) (l:List Mv),k≤L.length→(∀ x∈l,mvB m x=true) →
    (dmF L m j k l).1.length≤l.length+j∧(∀ x∈(dmF L m j k l).1,mvB m x=true)∧(dmF L m j k l).2≤L.length
  | 0,k,l,hk,h=>⟨Nat.le_refl _,h,hk⟩
  | j+1,k,l,hk,h=>by
    rw[dmF]
    split
    · rename_i hp
      have h2:=dmF_ok hm hsome j (dmF1 L m k).2 (l++[(dmF1 L m k).1]) (dmF1_k hk) (fun x hx=>by
        rcases List.mem_append.1 hx with hx | hx
        · exact h x hx
        · simp only[List.mem_singleton] at hx;subst hx;exact dmF1_b hm hsome hp)
      rw[List.length_append,List.length_singleton] at h2
      exact⟨by omega,h2.2⟩
    · exact⟨by dsimp only;omega,h,hk⟩
theorem movF_ok {L:List Int} {m:Mdl} {most k:Nat} (hm:VM m) (hsome:∀ l∈m.cls,1≤l.length) (hk:k≤L.length) :
    (movF L m most k).1.length≤most∧(∀ x∈(movF L m most k).1,mvB m x=true)∧(movF L m most k).2≤L.length:=by
  have hv:=nextV_range (L:=L) (k:=k) (n:=(most:Int)+1) (by omega)
  have h:=dmF_ok (L:=L) hm hsome (nextV L k (most+1)).toNat (nextA L k) [] (nextA_le hk) (by simp)
  rw[List.length_nil] at h
  exact⟨by have:=h.1;unfold movF;omega,h.2⟩
end T

