import Derived.Test.YtkefbbedaaceaaaM2
set_option linter.unusedVariables false
set_option linter.unusedSimpArgs false
set_option linter.unnecessarySimpa false
open Go Go.Am Go.Proofs
open Nat (reduceEqDiff reduceAdd reduceLeDiff reduceMul)
open Int (reduceNeg reduceLE reduceToNat)
set_option maxRecDepth 20000
namespace T
theorem of_ok (x:Int):Holds Try.prog 72 [.lit (.int .i64 x)] [] (.agg (eNm (ofN x))) []:=by
  refine Holds.of_body' (fn:=Try.f72) 7 0 [.cell 2 124] Try.func72 rfl rfl rfl rfl rfl (by simp) ?_
  repeat' (first|((first|((first|refine rr ?_|refine rre ?_);intro K hK)|with_reducible refine gO ?_);simp (disch:=omega) only[Ac,↓Pc,↓reduceIte,reduceCtorEq,reduceEqDiff,Nat.reduceBEq,reduceAdd,Nat.reduceLT,reduceLeDiff,reduceMul,reduceNeg,Int.reduceLT,reduceLE,reduceToNat])|(refine hK _ ?_;clear hK K)|(with_reducible refine gS (fun hb'=>?_) (fun hb'=>?_)<;>(have hb:=hb';(try simp only[DEc,reduceCtorEq] at hb);simp (disch:=omega) only[Ac,↓Pc,↓reduceIte,reduceCtorEq,reduceEqDiff,Nat.reduceBEq,reduceAdd,Nat.reduceLT,reduceLeDiff,reduceMul,reduceNeg,Int.reduceLT,reduceLE,reduceToNat,hb'];clear hb'))|(refine Wc (fun ht=>?_) (fun ht=>?_)<;>(try simp only[DEc,reduceCtorEq] at ht))|refine Wz rfl ?_|(refine Wb ?_;intro Qb hnb hxb heb)|(refine Wk ?_;intro Q hn he)|((first|refine hn _ ?_|refine he _ _ rfl ?_);clear hn he;try clear Q)|((first|refine hnb _ ?_|refine hxb _ ?_|refine heb _ _ rfl ?_);clear hnb hxb heb;try clear Qb)|(refine hel _ _ rfl ?_;clear hnl hel;try clear Ql)|(simp only[Qc,Kc,↓reduceIte,reduceEqDiff,Nat.reduceBEq])|with_reducible refine And.intro ?_ ?_|omega|with_reducible rfl)
  simp (disch:=omega) only[Ac,↓Pc,↓reduceIte,reduceCtorEq,reduceEqDiff,Nat.reduceBEq,reduceAdd,Nat.reduceLT,reduceLeDiff,reduceMul,reduceNeg,Int.reduceLT,reduceLE,reduceToNat,eNm,ofN,retV]
  exact RetOK_pure' rfl rfl
end T

