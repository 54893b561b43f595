import Derived.Test.YtodilglobhifaaaDoorX43
import Derived.Test.YtodilglobhifaaaDoorX14
set_option linter.all false
set_option maxHeartbeats 0
set_option maxRecDepth 20000
open Int renaming zero_add→Ak
open Option renaming isSome_some→kU
open Go Go.Am Go.Proofs
namespace T
def MD(s:ByteArray)(n:Nat):0<=nv s n/\nv s n<=255:=by
 unfold nv;split
 ·rename_i b _;have:=b.toNat_lt;omega
 ·exact⟨US,US⟩
def ME(s:ByteArray)(n:Nat): -9223372036854775808<=nv s n:=by have:=MD s n;omega
def MF(s:ByteArray)(n:Nat):nv s n<=9223372036854775807:=by have:=MD s n;omega
def MG(s:ByteArray)(n:Nat):IntKind.i64.wrap (nv s n)=nv s n:=pX ⟨ME s n,MF s n⟩
def TH{n:Nat}(h:n<256):IntKind.u8.wrap (n:Int)=n:=pX ⟨by show(0:Int)<=_;omega,by show _<=(255:Int);omega⟩
def wrap64{n:Nat}(h:n<256):IntKind.u64.wrap (n:Int)=n:=pX ⟨by show(0:Int)<=_;omega,by show _<=(18446744073709551615:Int);omega⟩
def TI(n:Nat)(hn:n<256):∃k:Int,ao Tryd.prog 77 [.lit (.int .u64 n)] [] (UX k) []:=by
 refine⟨?_,?_⟩;rotate_left;have h8:=TH hn;refine ao.aX 25 0 [.tmp 2] Tryd.func77 ?_;((try revert hK K);(repeat'(first|refine Vb (X4 @h8 @MG @Ak @kU.{0}) ?_|(refine V2 (X4 @h8 @MG @Ak @kU.{0}) ?_ ?_<;>try with_reducible intro hb)|(refine Xi ?_ ?_<;>try intro ht)|refine VD ?_ ?_|exact Xx|fail))<;>try with_reducible intro K hK)
 all_goals try(exfalso;omega)
 ·refine Int.ofNat_lt.2 (Nat.lt_of_lt_of_le hn ?_);decide +kernel
 ·exact ME _ _
 ·exact MF _ _
 refine aY ?_ ?_;rotate_left;rfl;rfl
def SM(n:Nat)(hn:n<256):∃k:Int,ao Tryd.prog 47 [.lit (.int .u64 n)] [] (UX k) []:=by
 obtain⟨k,hk⟩:=TI n hn;refine⟨k,?_⟩;refine ao.aX 8 0 [.tmp 2] Tryd.func47 ?_;((try revert hK K);(repeat'(first|refine Vd X0 hk ?_|(refine V2 X0 ?_ ?_<;>try with_reducible intro hb)|(refine Xi ?_ ?_<;>try intro ht)|refine VD ?_ ?_|exact Xx|fail))<;>try with_reducible intro K hK)
 exact aY rfl rfl
end T

