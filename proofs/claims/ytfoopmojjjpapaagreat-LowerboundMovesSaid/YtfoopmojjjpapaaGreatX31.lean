import Derived.Test.YtfoopmojjjpapaaGreatX23
set_option linter.all false
set_option maxHeartbeats 0
set_option maxRecDepth 20000
open Go Go.Am Go.Proofs
namespace T
def G7:IntKind.u64.min=0:=rfl
def G8:IntKind.u64.max=18446744073709551615:=rfl
def ahR:IntKind.u64.bits=64:=rfl
def p32:(2:Int)^(32:Nat)=4294967296:=rfl
def Yp{n:Int}(h:0<=n/\n<=18446744073709551615):IntKind.u64.wrap n=n:=x7 h
def ahg{n:Int}(h : -9223372036854775808<=n/\n<=9223372036854775807):IntKind.i64.wrap n=n:=x7 h
def ahT{a:Int}(h:0<=a/\a<=18446744073709551615):Bm .u64 a 4294967295=a%4294967296:=by
 unfold Bm;have e:(BitVec.ofInt IntKind.u64.bits a &&& BitVec.ofInt IntKind.u64.bits 4294967295).toNat=a.toNat%4294967296:=by
  rw[BitVec.toNat_and,BitVec.toNat_ofInt,BitVec.toNat_ofInt];have h1:(a%((2^IntKind.u64.bits:Nat):Int)).toNat=a.toNat:=by rw[Int.emod_eq_of_lt h.1 (by show a<18446744073709551616;omega)]
  have h2:((4294967295:Int)%((2^IntKind.u64.bits:Nat):Int)).toNat=2^32-1:=NI;rw[h1,h2,Nat.and_two_pow_sub_one_eq_mod]
 rw[e];rw[x7 (by simp only[G7,G8];omega)];omega
def unI:Tryz.prog.underlying 3=some (.int .i64):=by kernel_rfl
def unU:Tryz.prog.underlying 174=some (.int .u64):=by kernel_rfl
def ahU(y:Int)(hy:0<=y/\y<=9223372036854775807):Holds Tryz.prog 146 [.lit (.int .u64 1),.lit (.int .u64 y)] [] (.bu [.lit (.int .u64 0),.lit (.int .u64 y)]) []:=by
 refine Holds.aK 51 0 [.tmp 4,.tmp 5] Tryz.func146 ?_;refine Vb (X5 @G7 @G8 @ahR @p32 (X4 @ahT @Yp @Int.one_mul @Int.zero_mul)) ?_;refine aS rfl ?_;congr 3;all_goals first|rfl|(congr 2;omega)
def ahd(y:Int)(hy:0<=y/\y<=9223372036854775807):Holds Tryz.prog 118 [.lit (.int .u64 1),.lit (.int .u64 y)] [] (.bu [.lit (.int .u64 0),.lit (.int .u64 y)]) []:=by
 refine Holds.aK 30 0 [.tmp 4,.tmp 5] Tryz.func118 ?_;((repeat'(first|refine Vd (X2 @G7 @G8) (ahU y hy) ?_|(refine Xi ?_ ?_<;>try intro ht)|exact Xx|fail)))
 exact aS rfl rfl
end T

