import Derived.Test.YtodilglobhifaaaGreatDoorX38
import Derived.Test.YtodilglobhifaaaGreatDoorX20
set_option linter.all false
set_option maxHeartbeats 0
set_option maxRecDepth 20000
open Int renaming zero_add→Dv
open Option renaming isSome_some→m5
open Go Go.Am Go.Proofs
namespace T
structure BdS where
 plan:List Int
 aay:List Int
 aside:List Bool
 u:Int->Int->Int
def Rf(s:ByteArray)(n:Nat):0<=qf s n/\qf s n<=255:=by
 unfold qf;split
 ·rename_i b _;have:=b.toNat_lt;omega
 ·exact⟨Ha,Ha⟩
def Rg(s:ByteArray)(n:Nat): -9223372036854775808<=qf s n:=by have:=Rf s n;omega
def Rh(s:ByteArray)(n:Nat):qf s n<=9223372036854775807:=by have:=Rf s n;omega
def Ri(s:ByteArray)(n:Nat):IntKind.i64.wrap (qf s n)=qf s n:=s5 ⟨Rg s n,Rh s n⟩
def YR{n:Nat}(h:n<256):IntKind.u8.wrap (n:Int)=n:=s5 ⟨by show(0:Int)<=_;omega,by show _<=(255:Int);omega⟩
def wrap64{n:Nat}(h:n<256):IntKind.u64.wrap (n:Int)=n:=s5 ⟨by show(0:Int)<=_;omega,by show _<=(18446744073709551615:Int);omega⟩
def YS(n:Nat)(hn:n<256):∃k:Int,ao Tryz.prog 114 [.lit (.int .u64 n)] [] (aah k) []:=by
 refine⟨?_,?_⟩;rotate_left;have h8:=YR hn;refine ao.aO 25 0 [.tmp 2] Tryz.func114 ?_;((try revert hK K);(repeat'(first|refine Vb (X4 @h8 @Ri @Dv @m5.{0}) ?_|(refine V2 (X4 @h8 @Ri @Dv @m5.{0}) ?_ ?_<;>try with_reducible intro hb)|(refine Xi ?_ ?_<;>try intro ht)|refine VD ?_ ?_|exact Xx|fail))<;>try with_reducible intro K hK)
 all_goals try(exfalso;omega)
 ·refine Int.ofNat_lt.2 (Nat.lt_of_lt_of_le hn ?_);decide +kernel
 ·exact Rg _ _
 ·exact Rh _ _
 refine aT ?_ ?_;rotate_left;rfl;rfl
def Yn(n:Nat)(hn:n<256):∃k:Int,ao Tryz.prog 71 [.lit (.int .u64 n)] [] (aah k) []:=by
 obtain⟨k,hk⟩:=YS n hn;refine⟨k,?_⟩;refine ao.aO 8 0 [.tmp 2] Tryz.func71 ?_;((try revert hK K);(repeat'(first|refine Vd X0 hk ?_|(refine V2 X0 ?_ ?_<;>try with_reducible intro hb)|(refine Xi ?_ ?_<;>try intro ht)|refine VD ?_ ?_|exact Xx|fail))<;>try with_reducible intro K hK)
 exact aT rfl rfl
end T

