import Derived.Test.YtdipcmigdbnheaaGreatX19
import Derived.Test.YtdipcmigdbnheaaGreatX14
set_option linter.unusedVariables false
set_option linter.unusedSimpArgs false
set_option linter.unnecessarySimpa false
set_option linter.unusedSectionVars false
set_option maxHeartbeats 64000000
set_option maxRecDepth 20000
open Go Go.Am Go.Proofs
open Nat (reduceEqDiff reduceAdd reduceLeDiff reduceMul)
open Int (reduceNeg reduceLE reduceToNat)
namespace T
theorem Wx {σ:St} {kp:Nat→Prop} {ρ:Nat→Nat} (e:Int):aN σ kp ρ true (.bL [.agg (ar Pf),.lit (.int .i64 e)]) (.bL [.agg [.lit (.slice none 0 0),.lit (.slice none 0 0),.lit (.slice none 0 0),.lit (.int .i64 0)],.lit (.int .i64 e)]) :=
  .oS (.agg _ _ rfl (fD.spec (R:=aN σ kp ρ true) (cs:=ar Pf) (ds:=[.lit (.slice none 0 0),.lit (.slice none 0 0),.lit (.slice none 0 0),.lit (.int .i64 0)]) ⟨.nil,.nil,.nil,.pure rfl,trivial⟩).2) (.pure rfl)
theorem agh {m:ah} (hm:VM m) {l:List bK} (hl:l∈m.cls) {o:bK} (ho:o∈l):o.ch.length≤56∧∀ c∈o.ch,0≤c.1∧c.1<m.rules:=by
  have h:=hm.nu l hl o ho
  refine⟨by have:=EL hm.nx.1 h;have:=hm.nx;omega,fun c hc=>?_⟩
  have:=(zC h c hc).1
  rwa [iL,decide_eq_true_eq] at this
theorem Kz {m:ah} (h:VM m) {p:Pr} (hp:p∈m.ae):p.ax.length≤576:=by
  obtain ⟨_,h1,h2,h3,h4⟩:=mj (jn h.pr p hp)
  have a:=h.opt _ (az (l:=m.cls) (i:=p.fst.toNat) (d:=default) (by omega))
  have b:=h.opt _ (az (l:=m.cls) (i:=p.snd.toNat) (d:=default) (by omega))
  have:((m.cls.getD p.fst.toNat default).length:Int) * (m.cls.getD p.snd.toNat default).length≤24 * 24:=Int.mul_le_mul (by omega) (by omega) (by omega) (by omega)
  omega
def ej (m:ah) (cls:List (List bK)) (ae:List Pr) (au:List Ct):List Ob :=
  [.var (ar m),.var [.lit (.slice none 0 0),.lit (.slice none 0 0),.lit (.slice none 0 0),.lit (.int .i64 0)],
    .var [.ref 3 1 0 cls.length,.ref 4 4 0 ae.length,.ref 5 4 0 au.length,.lit (.int .i64 m.rules)],.arr 1 (rowsOf bn cls),.arr 4 (rowsOf aV ae),.arr 4 (rowsOf aU au)]
end T

