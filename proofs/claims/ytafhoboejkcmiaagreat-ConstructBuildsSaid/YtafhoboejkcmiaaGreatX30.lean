import Derived.Test.YtafhoboejkcmiaaGreatX22
import Derived.Test.YtafhoboejkcmiaaGreatX24
import Derived.Test.YtafhoboejkcmiaaGreatX23
import Derived.Test.YtafhoboejkcmiaaGreatX27
import Derived.Test.YtafhoboejkcmiaaGreatX26
import Derived.Test.YtafhoboejkcmiaaGreatX29
set_option linter.unusedVariables false
set_option linter.unusedSimpArgs false
set_option linter.unnecessarySimpa false
set_option linter.unusedSectionVars false
set_option maxHeartbeats 64000000
set_option maxRecDepth 20000
open Go Go.Am Go.Proofs
open Nat (reduceEqDiff reduceAdd reduceLeDiff reduceMul)
open Int (reduceNeg reduceLE reduceToNat)
namespace T
theorem prCut_ok (n:Int):Holds Tryz.prog 106 [.lit (.int .i64 n)] [] (.lit (.int .i64 (min n 1099511627776))) []:=by
  refine Holds.of_body' (fn:=Tryz.f106) 5 0 [.tmp 2] Tryz.func106 rfl rfl rfl rfl rfl (by simp) ?_
  refine Vb X0 ?_
  exact RetOK_pure' rfl rfl
theorem prTimes_ok (n pen:Int) (hn:0≤n∧n≤1048576) (hp:priceB pen=true):Holds Tryz.prog 107 [.lit (.int .i64 n),.lit (.int .i64 pen)] [] (.lit (.int .i64 (timesP n pen))) []:=by
  have hpi:=price_in hp
  unfold priceB at hp
  unfold In41 at hpi
  rw[decide_eq_true_eq] at hp
  generalize hres:timesP n pen=res
  unfold timesP at hres
  have hmul:¬(0<n∧pen=1099511627776)→0≤n * pen∧n * pen≤1099511627776:=fun h=>by
    rcases Int.lt_or_eq_of_le hn.1 with h0 | h0
    · have:n * pen≤1048576 * 1048576:=Int.mul_le_mul hn.2 (by omega) (by omega) (by omega)
      have:=Int.mul_nonneg hn.1 hpi.1
      omega
    · rw[← h0];simp
  generalize hnp:n * pen=np at *
  have hcut:=prCut_ok np
  refine Holds.of_body' (fn:=Tryz.f107) 15 0 [.tmp 4] Tryz.func107 rfl rfl rfl rfl rfl (by simp) ?_
  by_cases h:0<n∧pen=1099511627776
  · rw[if_pos h] at hres
    ((repeat' (first|refine Vb X0 ?_|(refine V2 X0 ?_ ?_<;>try with_reducible intro hb)|(refine Xi ?_ ?_<;>try intro ht)|exact Xx|fail)))
    all_goals exact RetOK_pure' rfl (by rw[hres])
  · rw[if_neg h] at hres
    have hmul:=hmul h
    ((repeat' (first|refine Vd @hnp hcut ?_|(refine V2 @hnp ?_ ?_<;>try with_reducible intro hb)|(refine Xi ?_ ?_<;>try intro ht)|exact Xx|fail)))
    all_goals exact RetOK_pure' rfl (by rw[hres])
theorem prEntry_ok (m:Mdl) (p:Pr) (x y:Int) (hpb:pairB m p=true) (h24:∀ l∈m.cls,l.length≤24) (hx:0≤x∧x<(m.cls.getD p.fst.toNat default).length) (hy:0≤y∧y<(m.cls.getD p.snd.toNat default).length) :
    Holds Tryz.prog 57 [.agg (eMdl m),.agg (ePr p),.lit (.int .i64 x),.lit (.int .i64 y)] [] (.lit (.int .i64 (entryV m p x y))) []:=by
  obtain ⟨q1,q2,q3,q4,q5⟩:=pairB_iff hpb
  have hla:=h24 _ (getD_mem (l:=m.cls) (i:=p.fst.toNat) (d:=default) (by omega))
  have hlb:=h24 _ (getD_mem (l:=m.cls) (i:=p.snd.toNat) (d:=default) (by omega))
  have hidx:=entry_idx (x:=x) (y:=y) (a:=(m.cls.getD p.fst.toNat default).length) (b:=(m.cls.getD p.snd.toNat default).length) hx hy (by omega) (by omega)
  unfold entryV
  rw[← q5] at hidx
  generalize hbb:m.cls.getD p.snd.toNat default=lb at *
  generalize hxm:x * (lb.length:Int)=xm at *
  refine Holds.of_body' (fn:=Tryz.f57) 24 0 [.tmp 8] Tryz.func57 rfl rfl rfl rfl rfl (by simp) ?_
  refine Vb (X2 @hbb @hxm) ?_
  exact RetOK_pure' rfl rfl
end T

