import Derived.Test.YtodilglobhifaaaDoorX19
import Derived.Test.YtodilglobhifaaaDoorX08
import Derived.Test.YtodilglobhifaaaDoorX18
set_option linter.all false
set_option maxHeartbeats 0
set_option maxRecDepth 20000
open List renaming getElem?_eq_getElem→aN
open Go Go.Am Go.Proofs
open Go Go.Am Go.Proofs Go.ChangeShapes Go.WideShapes Go.ChangeAt Go.RowKit
namespace T
def sS:List AV:=([0,1,56,2,57,49,28,3,61,58,42,50,38,29,17,4,62,47,59,36,45,43,51,22,53,39,33,30,24,18,12,5,63,55,48,27,60,41,37,16,46,35,44,21,52,32,23,11,54,26,40,15,34,20,31,10,25,14,19,9,13,8,7,6]:List Int).map λx=>.lit (.int .u8 x)
def MK:ov 1=.bO sS:=rfl
def Ej:sS.drop 0=.lit (.int .u8 0)::sS.drop 1:=rfl
def ML:sS.drop 1=.lit (.int .u8 1)::sS.drop 2:=rfl
def Ap{t e:Ty}{σ:St}{dst:Option Tmp}{K:St->Prop}{x:AV}{n:Int}{c:List AV}(i:Nat)(h:x=ov 1)(h1:t.kind=2)(h2:e.kind≠99)(h3:n=i)(h4:i<t.len)(h5:e.size=1)(hc:sS.drop i=c)(k:K (σ.put dst (.bO c))):jO t e σ dst K x (.lit (.int .u64 n)):=by
 subst h h3 hc;rw[MK];refine⟨h1,⟨h2,z8,z8⟩,?_⟩;rw[h5,Nat.mul_one,Int.toNat_natCast];exact k
def MN(w:Int)(h:w=1\/w=2\/w=3):ao Tryd.prog 66 [.lit (.int .u64 w)] [] (UX (lL w)) []:=by
 have e1:IntKind.u64.wrap (qZ IntKind.u64 1 (IntKind.u64.wrap (-1))*285870213051353865)/288230376151711744=0:=by decide +kernel
 have e2:IntKind.u64.wrap (qZ IntKind.u64 2 (IntKind.u64.wrap (-2))*285870213051353865)/288230376151711744=1:=by decide +kernel
 have e3:IntKind.u64.wrap (qZ IntKind.u64 3 (IntKind.u64.wrap (-3))*285870213051353865)/288230376151711744=0:=by decide +kernel
 rcases h with rfl|rfl|rfl
 ·refine ao.aX 14 0 [.tmp 2] Tryd.func66 ?_;repeat'(first|((fail_if_success (first|refine nj 4 ?_|refine nk 4 ?_));refine Xr X0 ?_;intro K hK)|refine Xo X0 ?_|(refine hK _ ?_;clear hK K)|(refine Xg X0 ?_ ?_<;>try intro hb)|(refine Xi ?_ ?_<;>try intro ht)|refine XY ?_|refine Xd ?_ ?_|exact Xx|fail)
  ·decide
  simp only[e1];refine Ap 0 rfl rfl US rfl US rfl Ej ?_;((try revert hK K);(repeat'(first|refine Vb X0 ?_|(refine V2 X0 ?_ ?_<;>try with_reducible intro hb)|(refine Xi ?_ ?_<;>try intro ht)|refine VD ?_ ?_|exact Xx|fail))<;>try with_reducible intro K hK)
  ·rfl
  exact aY US rfl
 ·refine ao.aX 14 0 [.tmp 2] Tryd.func66 ?_;repeat'(first|((fail_if_success (first|refine nj 4 ?_|refine nk 4 ?_));refine Xr X0 ?_;intro K hK)|refine Xo X0 ?_|(refine hK _ ?_;clear hK K)|(refine Xg X0 ?_ ?_<;>try intro hb)|(refine Xi ?_ ?_<;>try intro ht)|refine XY ?_|refine Xd ?_ ?_|exact Xx|fail)
  ·decide
  simp only[e2];refine Ap 1 rfl rfl US rfl US rfl ML ?_;((try revert hK K);(repeat'(first|refine Vb X0 ?_|(refine V2 X0 ?_ ?_<;>try with_reducible intro hb)|(refine Xi ?_ ?_<;>try intro ht)|refine VD ?_ ?_|exact Xx|fail))<;>try with_reducible intro K hK)
  ·rfl
  exact aY US rfl
 ·refine ao.aX 14 0 [.tmp 2] Tryd.func66 ?_;repeat'(first|((fail_if_success (first|refine nj 4 ?_|refine nk 4 ?_));refine Xr X0 ?_;intro K hK)|refine Xo X0 ?_|(refine hK _ ?_;clear hK K)|(refine Xg X0 ?_ ?_<;>try intro hb)|(refine Xi ?_ ?_<;>try intro ht)|refine XY ?_|refine Xd ?_ ?_|exact Xx|fail)
  ·decide
  simp only[e3];refine Ap 0 rfl rfl US rfl US rfl Ej ?_;((try revert hK K);(repeat'(first|refine Vb X0 ?_|(refine V2 X0 ?_ ?_<;>try with_reducible intro hb)|(refine Xi ?_ ?_<;>try intro ht)|refine VD ?_ ?_|exact Xx|fail))<;>try with_reducible intro K hK)
  ·rfl
  exact aY US rfl
def MO(w:Int)(h:w=1\/w=2\/w=3):ao Tryd.prog 42 [.lit (.int .u64 w)] [] (UX (lL w)) []:=by
 have h1:=MN w h;generalize lL w=t at *;refine ao.aX 8 0 [.tmp 2] Tryd.func42 ?_;((try revert hK K);(repeat'(first|refine Vd X0 h1 ?_|(refine V2 X0 ?_ ?_<;>try with_reducible intro hb)|(refine Xi ?_ ?_<;>try intro ht)|refine VD ?_ ?_|exact Xx|fail))<;>try with_reducible intro K hK)
 exact mq rfl
variable {H:Type} {enc:TypeId×Value->H} {W:World} {sp:Nat->Bool} {base:Nat}
def uJ:List Int:=[0,1,56,2,57,49,28,3,61,58,42,50,38,29,17,4,62,47,59,36,45,43,51,22,53,39,33,30,24,18,12,5,63,55,48,27,60,41,37,16,46,35,44,21,52,32,23,11,54,26,40,15,34,20,31,10,25,14,19,9,13,8,7,6]
def TW{W:World}(h:∀ i,i<uJ.length->W.cell? ⟨1,i,none⟩=some (.int .u8 (uJ.getD i 0))):xn W:=by
 intro g cs hg;unfold uK at hg;rw[List.lookup_cons]at hg;split at hg
 ·rename_i e;obtain rfl:g=1:=by simpa using e
  simp only[Option.some.injEq]at hg;subst hg;have h0:=h 0 US;refine⟨?_,λj x hj=>?_⟩
  ·unfold World.cell? at h0;by_cases hs:1<W.heap.size
   ·exact hs
   ·rw[show W.heap[1]?=none by simp;omega]at h0;simp at h0
  ·have eE:j<uJ.length:=by
    have:=(List.getElem?_eq_some_iff.1 hj).1;simpa [uJ] using this
   rw[Nat.zero_add,h j eE];have kq:(uJ.map (Value.int IntKind.u8))[j]?=some x:=hj;rw[List.getElem?_map,aN eE]at kq;rw[List.getD_eq_getElem?_getD,aN eE];exact kq
 ·cases hg
end T

