import Derived.Test.YtdipcmigdbnheaaGreatX18
import Derived.Test.YtdipcmigdbnheaaGreatX08
import Derived.KernelRfl
import Derived.Test.YtdipcmigdbnheaaGreatX17
import Derived.Test.YtdipcmigdbnheaaGreatX10
set_option linter.unusedVariables false
set_option linter.unusedSimpArgs false
set_option linter.unnecessarySimpa false
set_option linter.unusedSectionVars false
set_option maxHeartbeats 64000000
set_option maxRecDepth 20000
open Nat renaming zero_le→aD,reduceBEq→ri
open Option renaming map_some→ed
open Bool renaming not_true→gQ
open Go Go.Am Go.Proofs
open Nat (reduceEqDiff reduceAdd reduceLeDiff reduceMul)
open Int (reduceNeg reduceLE reduceToNat)
namespace T
theorem agM:oQ Tryz.prog 93 2:=oQ.of 3 (by kernel_rfl)
theorem agN:oQ Tryz.prog 78 5:=oQ.of 4 (by kernel_rfl)
theorem agO:oQ Tryz.prog 102 3:=oQ.of 3 (by kernel_rfl)
theorem agP:Tryz.prog.eqGuardType Tryz.prog.depth 93=false:=by kernel_rfl
theorem agQ:Tryz.prog.eqGuardType Tryz.prog.depth 78=false:=by kernel_rfl
theorem agR:Tryz.prog.eqGuardType Tryz.prog.depth 102=false:=by kernel_rfl
theorem agS (l:List bK) (hl:l.length<9223372036854775808) (hc:∀ o∈l,o.ch.length<9223372036854775808):ao Tryz.prog 51 [.tree 6 (rowsOf bX l),.tree 6 (rowsOf bX l)] [] (.lit (.bool true)) []:=by
  refine ao.aF (fn:=Tryz.f51) 71 0 [.tmp 4] Tryz.func51 rfl rfl rfl rfl rfl (by simp) ?_
  ((repeat' (first|refine Vb @bne_self_eq_false.{0} ?_|(refine Xi ?_ ?_<;>try intro ht)|exact Xx|fail)))
  refine aI (fun i:Nat=>(⟨av [(0,.tree 6 (rowsOf bX l)),(1,.tree 6 (rowsOf bX l)),(5,.lit (.int .i64 i))],[]⟩:St)) (fun i=>i≤l.length) (fun i=>l.length - i) 0 (aD _) (Xv X0) ?_
  rintro i hi Ql ak aq
  by_cases hi':i<l.length
  · have gJ:=hc _ (az (d:=(default:bK)) hi')
    generalize jV:l.getD i default=o at *
    ((repeat' (first|refine Va (X5 @jV (X3 @jy.eq_1 @jy.eq_2 @jy.eq_3) @ed.{0,0} @agN (X5 @agQ @eq_self.{1} @decide_true @gQ @bne_self_eq_false.{0})) ?_|(refine Xi ?_ ?_<;>try intro ht)|exact Xx|fail)))
    refine aI (fun k:Nat=>(⟨av [(0,.tree 6 (rowsOf bX l)),(1,.tree 6 (rowsOf bX l)),(5,.lit (.int .i64 i)),(6,.lit (.int .i64 k))],[]⟩:St)) (fun k=>k≤o.ch.length) (fun k=>o.ch.length - k) 0 (aD _) (Xv X0) ?_
    rintro k hk cP a5 a8
    by_cases aP:k<o.ch.length
    · generalize aO:o.ch.getD k default=c at *
      ((repeat' (first|refine Va (X5 @jV @aO (X3 @jy.eq_1 @jy.eq_2 @jy.eq_3) @ed.{0,0} (X5 @agM @agP @eq_self.{1} @decide_true @gQ)) ?_|(refine Xi ?_ ?_<;>try intro ht)|exact Xx|fail)))
      all_goals exact a5 _ (k+1) (by omega) (by omega) (Xv X0)
    · ((repeat' (first|refine Va @jV ?_|(refine Xi ?_ ?_<;>try intro ht)|exact Xx|fail)))
      refine a8 _ _ rfl ?_
      clear a5 a8 cP
      repeat (refine Xu ?_)
      refine Va X0 ?_
      exact ak _ (i+1) (by omega) (by omega) (Xv X0)
  · ((repeat' (first|refine Va X0 ?_|(refine Xi ?_ ?_<;>try intro ht)|exact Xx|fail)))
    refine aq _ _ rfl ?_;clear ak aq Ql
    repeat (refine Xu ?_)
    refine Vb X0 ?_
    exact aC rfl rfl
theorem NS (m:ah) (hb:MB m):ao Tryz.prog 17 [.agg (ar m),.agg (ar m)] [] (.lit (.bool true)) []:=by
  have h1:=hb.cls
  have h2:=hb.ae
  have h3:=hb.au
  refine ao.aF (fn:=Tryz.f17) 171 0 [.tmp 4] Tryz.func17 rfl rfl rfl rfl rfl (by simp) ?_
  ((repeat' (first|refine Vb @bne_self_eq_false.{0} ?_|(refine Xi ?_ ?_<;>try intro ht)|exact Xx|fail)))
  refine aI (fun i:Nat=>(⟨av [(2,.ptr 0 0 0),(3,.ptr 1 0 0),(5,.lit (.int .i64 i))],[.var (ar m),.var (ar m)]⟩:St)) (fun i=>i≤m.cls.length) (fun i=>m.cls.length - i) 0 (aD _) (Xv X0) ?_
  rintro i hi Ql ak aq
  by_cases hi':i<m.cls.length
  · have nF:=az (d:=(default:List bK)) hi'
    have h4:=hb.opt _ nF
    have h5:=hb.ch _ nF
    generalize fA:m.cls.getD i default=l at *
    have hs:=agS l h4 h5
    ((repeat' (first|refine Vc @fA hs ?_|(refine Xi ?_ ?_<;>try intro ht)|exact Xx|fail)))
    all_goals try (exfalso;simp at *;done)
    exact ak _ (i+1) (by omega) (by omega) (Xv X0)
  ((repeat' (first|refine Va X0 ?_|(refine Xi ?_ ?_<;>try intro ht)|exact Xx|fail)))
  refine aq _ _ rfl ?_;clear ak aq Ql
  repeat (refine Xu ?_)
  refine Va X0 ?_
  clear hi hi'
  refine aI (fun i:Nat=>(⟨av [(2,.ptr 0 0 0),(3,.ptr 1 0 0),(6,.lit (.int .i64 i))],[.var (ar m),.var (ar m)]⟩:St)) (fun i=>i≤m.ae.length) (fun i=>m.ae.length - i) 0 (aD _) (Xv X0) ?_
  rintro i hi Ql ak aq
  by_cases hi':i<m.ae.length
  · have nF:=az (d:=(default:Pr)) hi'
    have h4:=hb.ax _ nF
    generalize fA:m.ae.getD i default=p at *
    have hs:=Ef p.ax p.ax h4
    rw[decide_eq_true rfl] at hs
    ((repeat' (first|refine Va @fA ?_|(refine Xi ?_ ?_<;>try intro ht)|exact Xx|fail)))
    refine IQ ?_;intro Q hn he
    refine vt ⟨av [(2,.ptr 0 0 0),(3,.ptr 1 0 0),(6,.lit (.int .i64 i)),(7,.ptr 2 0 0),(8,.ptr 3 0 0)],[.var (ar m),.var (ar m),.var (aV p),.var (aV p)]⟩ hn ?_ (fun key=>?_)
    rotate_left
    · refine oT [] (.take 0 (.take 1 (.take 2 (.take 3 (.take 4 (.take 5 (.take 7 (.three 6 (.take 8 (.three 9 (.both 10 (.take 11 (.take 12 (.take 13 .nil))) 11 (.take 10 (.take 12 (.take 13 .nil)))) 10 (.both 9 (.take 11 (.take 12 (.take 13 .nil))) 11 (.both 9 (.take 12 (.take 13 .nil)) 12 (.take 9 (.take 13 .nil)))) 11 (.both 9 (.take 10 (.take 12 (.take 13 .nil))) 10 (.both 9 (.take 12 (.take 13 .nil)) 12 (.take 9 (.take 13 .nil)))))) 10 (.both 6 (.take 8 (.both 9 (.take 11 (.take 12 (.take 13 .nil))) 11 (.both 9 (.take 12 (.take 13 .nil)) 12 (.take 9 (.take 13 .nil))))) 11 (.both 6 (.take 8 (.both 9 (.take 12 (.take 13 .nil)) 12 (.take 9 (.take 13 .nil)))) 12 (.take 6 (.take 8 (.take 9 (.take 13 .nil)))))) 11 (.both 6 (.take 8 (.both 9 (.take 10 (.take 12 (.take 13 .nil))) 10 (.both 9 (.take 12 (.take 13 .nil)) 12 (.take 9 (.take 13 .nil))))) 10 (.both 6 (.take 8 (.both 9 (.take 12 (.take 13 .nil)) 12 (.take 9 (.take 13 .nil)))) 12 (.take 6 (.take 8 (.take 9 (.take 13 .nil)))))))))))))) rfl (by decide) (by decide +kernel) ?_
      simp (disch:=omega) only[Ac,↓Pc,simprocAttr,Pw,fA]
      repeat' (first|with_reducible refine And.intro ?_ ?_|omega)
      all_goals refine key _ ?_
      all_goals first
        | ((refine aA.se [0,1,2,3] false (by simp only[Oc,simprocAttr]) ?_;simp only[Hr,↓reduceIte,reduceEqDiff,ri,reduceAdd];try (and_intros<;>first|exact .pure rfl|exact .eq rfl|exact .fz rfl (by simp only[Bc,Rc])));done)
        | ((refine aA.se [0,1,3,2] false (by simp only[Oc,simprocAttr]) ?_;simp only[Hr,↓reduceIte,reduceEqDiff,ri,reduceAdd];try (and_intros<;>first|exact .pure rfl|exact .eq rfl|exact .fz rfl (by simp only[Bc,Rc])));done)
    (try clear hn;try clear he)
    try (try clear Q)
    ((repeat' (first|refine Vc @bne_self_eq_false.{0} hs ?_|(refine Xi ?_ ?_<;>try intro ht)|exact Xx|fail)))
    all_goals try (exfalso;simp at *;done)
    exact ak _ (i+1) (by omega) (by omega) (Xs false [0,1] X0)
  ((repeat' (first|refine Va X0 ?_|(refine Xi ?_ ?_<;>try intro ht)|exact Xx|fail)))
  refine aq _ _ rfl ?_;clear ak aq Ql
  repeat (refine Xu ?_)
  refine Va X0 ?_
  clear hi hi'
  refine aI (fun i:Nat=>(⟨av [(2,.ptr 0 0 0),(3,.ptr 1 0 0),(9,.lit (.int .i64 i))],[.var (ar m),.var (ar m)]⟩:St)) (fun i=>i≤m.au.length) (fun i=>m.au.length - i) 0 (aD _) (Xv X0) ?_
  rintro i hi Ql ak aq
  by_cases hi':i<m.au.length
  · have nF:=az (d:=(default:Ct)) hi'
    have h4:=hb.kr _ nF
    generalize fA:m.au.getD i default=c at *
    ((repeat' (first|refine Va @fA ?_|(refine Xi ?_ ?_<;>try intro ht)|exact Xx|fail)))
    refine IQ ?_;intro Q hn he
    refine vt ⟨av [(2,.ptr 0 0 0),(3,.ptr 1 0 0),(9,.lit (.int .i64 i)),(10,.ptr 2 0 0),(11,.ptr 3 0 0)],[.var (ar m),.var (ar m),.var (aU c),.var (aU c)]⟩ hn ?_ (fun key=>?_)
    rotate_left
    · refine oT [] (.take 0 (.take 1 (.take 2 (.take 3 (.take 4 (.take 5 (.take 7 (.three 6 (.take 8 (.three 9 (.both 10 (.take 11 (.take 12 (.take 13 .nil))) 11 (.take 10 (.take 12 (.take 13 .nil)))) 10 (.both 9 (.take 11 (.take 12 (.take 13 .nil))) 11 (.both 9 (.take 12 (.take 13 .nil)) 12 (.take 9 (.take 13 .nil)))) 11 (.both 9 (.take 10 (.take 12 (.take 13 .nil))) 10 (.both 9 (.take 12 (.take 13 .nil)) 12 (.take 9 (.take 13 .nil)))))) 10 (.both 6 (.take 8 (.both 9 (.take 11 (.take 12 (.take 13 .nil))) 11 (.both 9 (.take 12 (.take 13 .nil)) 12 (.take 9 (.take 13 .nil))))) 11 (.both 6 (.take 8 (.both 9 (.take 12 (.take 13 .nil)) 12 (.take 9 (.take 13 .nil)))) 12 (.take 6 (.take 8 (.take 9 (.take 13 .nil)))))) 11 (.both 6 (.take 8 (.both 9 (.take 10 (.take 12 (.take 13 .nil))) 10 (.both 9 (.take 12 (.take 13 .nil)) 12 (.take 9 (.take 13 .nil))))) 10 (.both 6 (.take 8 (.both 9 (.take 12 (.take 13 .nil)) 12 (.take 9 (.take 13 .nil)))) 12 (.take 6 (.take 8 (.take 9 (.take 13 .nil)))))))))))))) rfl (by decide) (by decide +kernel) ?_
      simp (disch:=omega) only[Ac,↓Pc,simprocAttr,Pw,fA]
      repeat' (first|with_reducible refine And.intro ?_ ?_|omega)
      all_goals refine key _ ?_
      all_goals first
        | ((refine aA.se [0,1,2,3] false (by simp only[Oc,simprocAttr]) ?_;simp only[Hr,↓reduceIte,reduceEqDiff,ri,reduceAdd];try (and_intros<;>first|exact .pure rfl|exact .eq rfl|exact .fz rfl (by simp only[Bc,Rc])));done)
        | ((refine aA.se [0,1,3,2] false (by simp only[Oc,simprocAttr]) ?_;simp only[Hr,↓reduceIte,reduceEqDiff,ri,reduceAdd];try (and_intros<;>first|exact .pure rfl|exact .eq rfl|exact .fz rfl (by simp only[Bc,Rc])));done)
    (try clear hn;try clear he)
    try (try clear Q)
    ((repeat' (first|refine Va @bne_self_eq_false.{0} ?_|(refine Xi ?_ ?_<;>try intro ht)|exact Xx|fail)))
    refine aI (fun k:Nat=>(⟨av [(2,.ptr 0 0 0),(3,.ptr 1 0 0),(9,.lit (.int .i64 i)),(10,.ptr 2 0 0),(11,.ptr 3 0 0),(12,.lit (.int .i64 k))],[.var (ar m),.var (ar m),.var (aU c),.var (aU c)]⟩:St)) (fun k=>k≤c.aK.length) (fun k=>c.aK.length - k) 0 (aD _) (Xv X0) ?_
    rintro k hk cP a5 a8
    by_cases aP:k<c.aK.length
    · generalize aO:c.aK.getD k default=x at *
      ((repeat' (first|refine Va (X5 @aO (X3 @jy.eq_1 @jy.eq_2 @jy.eq_3) @ed.{0,0} @agO (X4 @agR @eq_self.{1} @decide_true @gQ)) ?_|(refine Xi ?_ ?_<;>try intro ht)|exact Xx|fail)))
      all_goals exact a5 _ (k+1) (by omega) (by omega) (Xv X0)
    · ((repeat' (first|refine Va X0 ?_|(refine Xi ?_ ?_<;>try intro ht)|exact Xx|fail)))
      refine a8 _ _ rfl ?_
      clear a5 a8 cP
      repeat (refine Xu ?_)
      refine Va X0 ?_
      exact ak _ (i+1) (by omega) (by omega) (Xs false [0,1] X0)
  ((repeat' (first|refine Va X0 ?_|(refine Xi ?_ ?_<;>try intro ht)|exact Xx|fail)))
  refine aq _ _ rfl ?_;clear ak aq Ql
  repeat (refine Xu ?_)
  refine Vb X0 ?_
  exact aC rfl rfl
end T

