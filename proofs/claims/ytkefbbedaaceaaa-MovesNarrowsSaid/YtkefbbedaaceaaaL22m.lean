import Derived.Test.YtkefbbedaaceaaaC1
set_option linter.unusedVariables false
set_option linter.unusedSimpArgs false
open Go Go.Am Go.Proofs
open Nat (reduceEqDiff reduceAdd reduceLeDiff reduceMul)
open Int (reduceNeg reduceLE reduceToNat)
set_option maxRecDepth 20000
namespace T
theorem u64min:IntKind.u64.min=0:=rfl
theorem u64max:IntKind.u64.max=18446744073709551615:=rfl
theorem u64bits:IntKind.u64.bits=64:=rfl
theorem p32:(2:Int) ^ (32:Nat)=4294967296:=rfl
theorem wrapU {n:Int} (h:0≤n∧n≤18446744073709551615):IntKind.u64.wrap n=n:=wrap_in h
theorem wrapI {n:Int} (h : -9223372036854775808≤n∧n≤9223372036854775807):IntKind.i64.wrap n=n:=wrap_in h
theorem andU {a:Int} (h:0≤a∧a≤18446744073709551615):andK .u64 a 4294967295=a % 4294967296:=by
  unfold andK
  have e:(BitVec.ofInt IntKind.u64.bits a &&& BitVec.ofInt IntKind.u64.bits 4294967295).toNat=a.toNat % 4294967296:=by
    rw[BitVec.toNat_and,BitVec.toNat_ofInt,BitVec.toNat_ofInt]
    have h1:(a % ((2 ^ IntKind.u64.bits:Nat):Int)).toNat=a.toNat:=by rw[Int.emod_eq_of_lt h.1 (by show a<18446744073709551616;omega)]
    have h2:((4294967295:Int) % ((2 ^ IntKind.u64.bits:Nat):Int)).toNat=2 ^ 32 - 1:=by decide
    rw[h1,h2,Nat.and_two_pow_sub_one_eq_mod]
  rw[e]
  rw[wrap_in (by simp only[u64min,u64max];omega)]
  omega
theorem unI:Try.prog.underlying 3=some (.int .i64):=by kernel_rfl
theorem unU:Try.prog.underlying 114=some (.int .u64):=by kernel_rfl
theorem mul64_ok (y:Int) (hy:0≤y∧y≤9223372036854775807):Holds Try.prog 90 [.lit (.int .u64 1),.lit (.int .u64 y)] [] (.tup [.lit (.int .u64 0),.lit (.int .u64 y)]) []:=by
  refine Holds.of_body' (fn:=Try.f90) 51 0 [.tmp 4,.tmp 5] Try.func90 rfl rfl rfl rfl rfl (by simp) ?_
  repeat' (first|((first|((first|refine rr ?_|refine rre ?_);intro K hK)|with_reducible refine gO ?_);simp (disch:=omega) only[Ac,↓Pc,↓reduceIte,reduceCtorEq,reduceEqDiff,Nat.reduceBEq,reduceAdd,Nat.reduceLT,reduceLeDiff,reduceMul,reduceNeg,Int.reduceLT,reduceLE,reduceToNat,u64min,u64max,u64bits,p32,andU,Int.one_mul,Int.zero_mul])|(refine hK _ ?_;clear hK K)|(with_reducible refine gS (fun hb'=>?_) (fun hb'=>?_)<;>(have hb:=hb';(try simp only[DEc,reduceCtorEq] at hb);simp (disch:=omega) only[Ac,↓Pc,↓reduceIte,reduceCtorEq,reduceEqDiff,Nat.reduceBEq,reduceAdd,Nat.reduceLT,reduceLeDiff,reduceMul,reduceNeg,Int.reduceLT,reduceLE,reduceToNat,u64min,u64max,u64bits,p32,andU,Int.one_mul,Int.zero_mul,hb'];clear hb'))|(refine Wc (fun ht=>?_) (fun ht=>?_)<;>(try simp only[DEc,reduceCtorEq] at ht))|refine Wz rfl ?_|(refine Wb ?_;intro Qb hnb hxb heb)|(refine Wk ?_;intro Q hn he)|((first|refine hn _ ?_|refine he _ _ rfl ?_);clear hn he;try clear Q)|((first|refine hnb _ ?_|refine hxb _ ?_|refine heb _ _ rfl ?_);clear hnb hxb heb;try clear Qb)|(refine hel _ _ rfl ?_;clear hnl hel;try clear Ql)|(simp only[Qc,Kc,↓reduceIte,reduceEqDiff,Nat.reduceBEq])|with_reducible refine And.intro ?_ ?_|omega|with_reducible rfl)
  refine RetOK_pure' rfl ?_
  congr 3
  all_goals first|rfl|(congr 2;omega)
theorem mul_ok (y:Int) (hy:0≤y∧y≤9223372036854775807):Holds Try.prog 68 [.lit (.int .u64 1),.lit (.int .u64 y)] [] (.tup [.lit (.int .u64 0),.lit (.int .u64 y)]) []:=by
  refine Holds.of_body' (fn:=Try.f68) 30 0 [.tmp 4,.tmp 5] Try.func68 rfl rfl rfl rfl rfl (by simp) ?_
  repeat' (first|((first|((first|refine rr ?_|refine rre ?_|refine rb ?_|refine rbe ?_|refine ra ?_|refine rae ?_);intro K hK)|with_reducible refine gO ?_);simp (disch:=omega) only[Ac,↓Pc,↓reduceIte,reduceCtorEq,reduceEqDiff,Nat.reduceBEq,reduceAdd,Nat.reduceLT,reduceLeDiff,reduceMul,reduceNeg,Int.reduceLT,reduceLE,reduceToNat,u64min,u64max])|(first|refine callK_pure (mul64_ok y hy) rfl rfl ?_|refine callQ_pure (mul64_ok y hy) rfl rfl ?_)|(refine hK _ ?_;clear hK K)|(with_reducible refine gS (fun hb'=>?_) (fun hb'=>?_)<;>(have hb:=hb';(try simp only[DEc,reduceCtorEq] at hb);simp (disch:=omega) only[Ac,↓Pc,↓reduceIte,reduceCtorEq,reduceEqDiff,Nat.reduceBEq,reduceAdd,Nat.reduceLT,reduceLeDiff,reduceMul,reduceNeg,Int.reduceLT,reduceLE,reduceToNat,u64min,u64max,hb'];clear hb'))|(refine Wc (fun ht=>?_) (fun ht=>?_)<;>(try simp only[DEc,reduceCtorEq] at ht))|refine Wz rfl ?_|(refine Wb ?_;intro Qb hnb hxb heb)|(refine Wk ?_;intro Q hn he)|((first|refine hn _ ?_|refine he _ _ rfl ?_);clear hn he;try clear Q)|((first|refine hnb _ ?_|refine hxb _ ?_|refine heb _ _ rfl ?_);clear hnb hxb heb;try clear Qb)|(refine hel _ _ rfl ?_;clear hnl hel;try clear Ql)|(simp only[Qc,Kc,↓reduceIte,reduceEqDiff,Nat.reduceBEq])|with_reducible refine And.intro ?_ ?_|omega|with_reducible rfl)
  exact RetOK_pure' rfl rfl
end T

