import Derived.Test.YtdipcmigdbnheaaGreatX18
import Derived.Test.YtdipcmigdbnheaaGreatX14
set_option linter.unusedVariables false
set_option linter.unusedSimpArgs false
set_option linter.unnecessarySimpa false
set_option linter.unusedSectionVars false
set_option maxHeartbeats 64000000
set_option maxRecDepth 20000
open Bool renaming and_eq_true→bk
open Go Go.Am Go.Proofs
open Nat (reduceEqDiff reduceAdd reduceLeDiff reduceMul)
open Int (reduceNeg reduceLE reduceToNat)
namespace T
theorem acI {m:aj} (hm:VM m) {c:List bx} (hc:c∈m.cls) {o:bx} (ho:o∈c):o.ch.length≤100:=by
  have h:=hm.kI c hc o ho
  have hr:=hm.im
  cases ep:o.ch with
  | nil=>simp
  | cons x r =>
    rw[ep,dj] at h
    simp only[bk,decide_eq_true_eq,iu] at h
    rcases DU h.2 with rfl | h2
    · simp
    · simp only[List.length_cons];omega
theorem Iu {m:aj} {p:Pr} (hp:eW m p=true) (hm:VM m):p.az.length≤576:=by
  unfold eW at hp
  simp only[bk,decide_eq_true_eq] at hp
  obtain ⟨⟨_,h1,h2,h3,h4⟩,_⟩:=hp
  have a:=hm.opt _ (aC (l:=m.cls) (i:=p.fst.toNat) (d:=default) (by omega))
  have b:=hm.opt _ (aC (l:=m.cls) (i:=p.snd.toNat) (d:=default) (by omega))
  have:=Nat.mul_le_mul a b
  have e:(p.az.length:Int)=((m.cls.getD p.fst.toNat default).length * (m.cls.getD p.snd.toNat default).length:Nat):=by rw[h4];simp
  omega
theorem acP {m:aj} {p:Pr} (hp:eW m p=true):0≤p.fst∧p.fst<p.snd∧p.snd<m.cls.length∧(p.az.length:Int)=(m.cls.getD p.fst.toNat default).length * (m.cls.getD p.snd.toNat default).length:=by
  unfold eW at hp
  simp only[bk,decide_eq_true_eq] at hp
  exact hp.1.2
end T

