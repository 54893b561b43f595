import Derived.Test.YtibijngmebpmmaaMA
import Derived.Test.YtibijngmebpmmaaSM
set_option linter.unusedVariables false
set_option linter.unusedSimpArgs false
set_option linter.unnecessarySimpa false
open Go Go.Am Go.Proofs
open Nat (reduceEqDiff reduceAdd reduceLeDiff reduceMul)
open Int (reduceNeg reduceLE reduceToNat)
set_option maxRecDepth 20000
namespace T
theorem chs_len {m:Mdl} (hm:VM m) {c:List Opt} (hc:c∈m.cls) {o:Opt} (ho:o∈c):o.ch.length≤100:=by
  have h:=hm.chs c hc o ho
  have hr:=hm.rul
  cases hch:o.ch with
  | nil=>simp
  | cons x r =>
    rw[hch,chL] at h
    simp only[Bool.and_eq_true,decide_eq_true_eq,ruleB] at h
    rcases chL_len h.2 with rfl | h2
    · simp
    · simp only[List.length_cons];omega
theorem pairB_tab {m:Mdl} {p:Pr} (hp:pairB m p=true) (hm:VM m):p.tab.length≤576:=by
  unfold pairB at hp
  simp only[Bool.and_eq_true,decide_eq_true_eq] at hp
  obtain ⟨⟨_,h1,h2,h3,h4⟩,_⟩:=hp
  have a:=hm.opt _ (getD_mem (l:=m.cls) (i:=p.fst.toNat) (d:=default) (by omega))
  have b:=hm.opt _ (getD_mem (l:=m.cls) (i:=p.snd.toNat) (d:=default) (by omega))
  have:=Nat.mul_le_mul a b
  have e:(p.tab.length:Int)=((m.cls.getD p.fst.toNat default).length * (m.cls.getD p.snd.toNat default).length:Nat):=by rw[h4];simp
  omega
theorem pairB_in {m:Mdl} {p:Pr} (hp:pairB m p=true):0≤p.fst∧p.fst<p.snd∧p.snd<m.cls.length∧(p.tab.length:Int)=(m.cls.getD p.fst.toNat default).length * (m.cls.getD p.snd.toNat default).length:=by
  unfold pairB at hp
  simp only[Bool.and_eq_true,decide_eq_true_eq] at hp
  exact hp.1.2
theorem idx_in {a k c n:Int} (ha:0≤a∧a<n) (hk:0≤k∧k<c) (hc:c≤24) (hn:n≤24):0≤a * c∧a * c≤576∧0≤a * c+k∧a * c+k<n * c:=by
  have h1:0≤a * c:=Int.mul_nonneg ha.1 (by omega)
  have h2:(a+1) * c≤n * c:=Int.mul_le_mul_of_nonneg_right (by omega) (by omega)
  rw[Int.add_mul] at h2
  have h3:n * c≤24 * 24:=Int.mul_le_mul hn hc (by omega) (by omega)
  omega
end T

