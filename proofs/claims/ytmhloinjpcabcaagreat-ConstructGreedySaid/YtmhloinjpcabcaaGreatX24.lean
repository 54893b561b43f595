import Derived.Test.YtmhloinjpcabcaaGreatX13
import Derived.Test.YtmhloinjpcabcaaGreatX21
set_option linter.unusedVariables false
set_option linter.unusedSimpArgs false
set_option linter.unnecessarySimpa false
set_option linter.unusedSectionVars false
set_option maxHeartbeats 64000000
set_option maxRecDepth 20000
open Go Go.Am
namespace T
abbrev SC:=Int × Int
def scAdd (s:SC) (cost times:Int):SC:=if cost=1099511627776 then (s.1+times,s.2) else (s.1,s.2+cost * times)
structure FP (m:Mdl) (plan:List Int):Prop where
  len:plan.length=m.cls.length
  get:∀ j,j<plan.length→optB m (j:Nat) (plan.getD j 0)=true
theorem FP.pm {m:Mdl} {plan:List Int} (h:FP m plan):PM m plan:=⟨h.len,fun j hj=>.inr (h.get j hj)⟩
def SB (s:SC) (n:Nat):Prop:=0≤s.1∧s.1≤1048576 * n∧0≤s.2∧s.2≤1099511627776 * n
theorem SB.zero:SB (0,0) 0:=by unfold SB;decide
theorem SB.mono {s:SC} {n k:Nat} (h:SB s n) (hk:n≤k):SB s k:=by unfold SB at *;omega
def CostB (c:Int):Prop:=0≤c∧c≤1048576∨c=1099511627776
theorem cb_mul {c t:Int} (hc:0≤c∧c≤1048576) (ht:0≤t∧t≤1048576):0≤c * t∧c * t≤1099511627776 :=
  ⟨Int.mul_nonneg hc.1 ht.1,Int.le_trans (Int.mul_le_mul hc.2 ht.2 ht.1 (by omega)) (by decide)⟩
theorem SB.add {s:SC} {n:Nat} (h:SB s n) {c t:Int} (hc:CostB c) (ht:0≤t∧t≤1048576):SB (scAdd s c t) (n+1):=by
  unfold SB scAdd at *
  split
  · dsimp only;omega
  · have:=cb_mul (hc.resolve_right (by assumption)) ht
    dsimp only;omega
def wtV:List Ld→Int→Int→Int
  | [],_,_=>0
  | x::r,i,o=>if x.cls=i∧x.opt=o then x.wt else wtV r i o
theorem wtV_none:∀ (l:List Ld) (i o:Int),(∀ y∈l,¬ (y.cls=i∧y.opt=o))→wtV l i o=0
  | [],_,_,_=>rfl
  | x::r,i,o,h=>by rw[wtV,if_neg (h x (by simp)),wtV_none r i o fun y hy=>h y (by simp[hy])]
theorem ldL_gt {m:Mdl}:∀ {l:List Ld} {q:Ld},ldL m (some q) l=true→∀ y∈l,q.cls<y.cls∨(q.cls=y.cls∧q.opt<y.opt)
  | [],_,_,y,hy=>by simp at hy
  | x::r,q,h,y,hy=>by
    rw[ldL] at h
    simp only[Bool.and_eq_true,decide_eq_true_eq] at h
    have h1:=ldOrd_lt.1 h.1.2
    rcases List.mem_cons.1 hy with rfl | hy
    · exact h1
    · have:=ldL_gt h.2 y hy;omega
end T

