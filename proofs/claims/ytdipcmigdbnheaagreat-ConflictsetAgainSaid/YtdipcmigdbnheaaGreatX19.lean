import Derived.Test.YtdipcmigdbnheaaGreatX18
import Derived.Test.YtdipcmigdbnheaaGreatX14
set_option linter.all false
set_option maxHeartbeats 0
set_option maxRecDepth 20000
open Bool renaming and_eq_true→ba
open Go Go.Am Go.Proofs
namespace T
def abT{m:aj}(hm:VM m){c:List br}(hc:c∈m.cls){o:br}(ho:o∈c):o.ch.length<=100:=by
 have h:=hm.kQ c hc o ho;have hr:=hm.iS;cases eC:o.ch with
 |nil=>simp
 |cons x r =>
  rw[eC,db]at h;simp only[ba,decide_eq_true_eq,ij]at h;rcases Di h.2 with rfl|h2
  ·simp
  ·simp only[List.length_cons];omega
def HQ{m:aj}{p:Pr}(hp:eS m p=true)(hm:VM m):p.ay.length<=576:=by
 unfold eS at hp;simp only[ba,decide_eq_true_eq]at hp;obtain⟨⟨_,h1,h2,h3,h4⟩,_⟩:=hp;have a:=hm.opt _ (aC (l:=m.cls) (i:=p.fst.toNat) (d:=default) I6);have b:=hm.opt _ (aC (l:=m.cls) (i:=p.snd.toNat) (d:=default) I6);have:=Nat.mul_le_mul a b;have e:(p.ay.length:Int)=((m.cls.getD p.fst.toNat default).length*(m.cls.getD p.snd.toNat default).length:Nat):=by rw[h4];simp
 omega
def ab0{m:aj}{p:Pr}(hp:eS m p=true):0<=p.fst/\p.fst<p.snd/\p.snd<m.cls.length/\(p.ay.length:Int)=(m.cls.getD p.fst.toNat default).length*(m.cls.getD p.snd.toNat default).length:=by
 unfold eS at hp;simp only[ba,decide_eq_true_eq]at hp;exact hp.1.2
end T

