import Derived.Test.YtodilglobhifaaaGreatDoorX25
import Derived.Test.YtodilglobhifaaaGreatDoorX09
import Derived.Test.YtodilglobhifaaaGreatDoorX23
set_option linter.all false
set_option maxHeartbeats 0
set_option maxRecDepth 20000
open List renaming getElem?_eq_getElem→bc
open Go Go.Am Go.Proofs
open Go Go.Am Go.Proofs Go.ChangeShapes Go.WideShapes Go.ChangeAt Go.RowKit
namespace T
def vY:List AV:=([0,1,56,2,57,49,28,3,61,58,42,50,38,29,17,4,62,47,59,36,45,43,51,22,53,39,33,30,24,18,12,5,63,55,48,27,60,41,37,16,46,35,44,21,52,32,23,11,54,26,40,15,34,20,31,10,25,14,19,9,13,8,7,6]:List Int).map λx=>.lit (.int .u8 x)
def RY:qY 1=.cm vY:=rfl
def Hx:vY.drop 0=.lit (.int .u8 0)::vY.drop 1:=rfl
def RZ:vY.drop 1=.lit (.int .u8 1)::vY.drop 2:=rfl
def Dx{t e:Ty}{σ:St}{dst:Option Tmp}{K:St->Prop}{x:AV}{n:Int}{c:List AV}(i:Nat)(h:x=qY 1)(h1:t.kind=2)(h2:e.kind≠99)(h3:n=i)(h4:i<t.len)(h5:e.size=1)(hc:vY.drop i=c)(k:K (σ.put dst (.cm c))):lz t e σ dst K x (.lit (.int .u64 n)):=by
 subst h h3 hc;rw[RY];refine⟨h1,⟨h2,Ay,Ay⟩,?_⟩;rw[h5,Nat.mul_one,Int.toNat_natCast];exact k
def R0(w:Int)(h:w=1\/w=2\/w=3):ao Tryz.prog 103 [.lit (.int .u64 w)] [] (aah (nU w)) []:=by
 have e1:IntKind.u64.wrap (uq IntKind.u64 1 (IntKind.u64.wrap (-1))*285870213051353865)/288230376151711744=0:=by decide +kernel
 have e2:IntKind.u64.wrap (uq IntKind.u64 2 (IntKind.u64.wrap (-2))*285870213051353865)/288230376151711744=1:=by decide +kernel
 have e3:IntKind.u64.wrap (uq IntKind.u64 3 (IntKind.u64.wrap (-3))*285870213051353865)/288230376151711744=0:=by decide +kernel
 rcases h with rfl|rfl|rfl
 ·refine ao.aO 14 0 [.tmp 2] Tryz.func103 ?_;repeat'(first|((fail_if_success (first|refine gP 4 ?_|refine gQ 4 ?_));refine Xr X0 ?_;intro K hK)|refine Xo X0 ?_|(refine hK _ ?_;clear hK K)|(refine Xg X0 ?_ ?_<;>try intro hb)|(refine Xi ?_ ?_<;>try intro ht)|refine XY ?_|refine Xd ?_ ?_|exact Xx|fail)
  ·decide
  simp only[e1];refine Dx 0 rfl rfl Ha rfl Ha rfl Hx ?_;((try revert hK K);(repeat'(first|refine Vb X0 ?_|(refine V2 X0 ?_ ?_<;>try with_reducible intro hb)|(refine Xi ?_ ?_<;>try intro ht)|refine VD ?_ ?_|exact Xx|fail))<;>try with_reducible intro K hK)
  ·rfl
  exact aT Ha rfl
 ·refine ao.aO 14 0 [.tmp 2] Tryz.func103 ?_;repeat'(first|((fail_if_success (first|refine gP 4 ?_|refine gQ 4 ?_));refine Xr X0 ?_;intro K hK)|refine Xo X0 ?_|(refine hK _ ?_;clear hK K)|(refine Xg X0 ?_ ?_<;>try intro hb)|(refine Xi ?_ ?_<;>try intro ht)|refine XY ?_|refine Xd ?_ ?_|exact Xx|fail)
  ·decide
  simp only[e2];refine Dx 1 rfl rfl Ha rfl Ha rfl RZ ?_;((try revert hK K);(repeat'(first|refine Vb X0 ?_|(refine V2 X0 ?_ ?_<;>try with_reducible intro hb)|(refine Xi ?_ ?_<;>try intro ht)|refine VD ?_ ?_|exact Xx|fail))<;>try with_reducible intro K hK)
  ·rfl
  exact aT Ha rfl
 ·refine ao.aO 14 0 [.tmp 2] Tryz.func103 ?_;repeat'(first|((fail_if_success (first|refine gP 4 ?_|refine gQ 4 ?_));refine Xr X0 ?_;intro K hK)|refine Xo X0 ?_|(refine hK _ ?_;clear hK K)|(refine Xg X0 ?_ ?_<;>try intro hb)|(refine Xi ?_ ?_<;>try intro ht)|refine XY ?_|refine Xd ?_ ?_|exact Xx|fail)
  ·decide
  simp only[e3];refine Dx 0 rfl rfl Ha rfl Ha rfl Hx ?_;((try revert hK K);(repeat'(first|refine Vb X0 ?_|(refine V2 X0 ?_ ?_<;>try with_reducible intro hb)|(refine Xi ?_ ?_<;>try intro ht)|refine VD ?_ ?_|exact Xx|fail))<;>try with_reducible intro K hK)
  ·rfl
  exact aT Ha rfl
def Dy(w:Int)(h:1<=w/\w<=3):ao Tryz.prog 115 [aah w] [] (aah (p7 w)) []:=by
 have e1:xZ 1 (-1)=1:=Ha;have e2:xZ 2 (-2)=2:=Ha;have e3:xZ 3 (-3)=1:=Ha;have hw:w=1\/w=2\/w=3:=Ay;rcases hw with rfl|rfl|rfl
 ·refine ao.aO 7 0 [.tmp 2] Tryz.func115 ?_;((try revert hK K);(repeat'(first|refine Vb @e1 ?_|(refine V2 @e1 ?_ ?_<;>try with_reducible intro hb)|(refine Xi ?_ ?_<;>try intro ht)|refine VD ?_ ?_|exact Xx|fail))<;>try with_reducible intro K hK)
  exact aT rfl rfl
 ·refine ao.aO 7 0 [.tmp 2] Tryz.func115 ?_;((try revert hK K);(repeat'(first|refine Vb @e2 ?_|(refine V2 @e2 ?_ ?_<;>try with_reducible intro hb)|(refine Xi ?_ ?_<;>try intro ht)|refine VD ?_ ?_|exact Xx|fail))<;>try with_reducible intro K hK)
  exact aT rfl rfl
 ·refine ao.aO 7 0 [.tmp 2] Tryz.func115 ?_;((try revert hK K);(repeat'(first|refine Vb @e3 ?_|(refine V2 @e3 ?_ ?_<;>try with_reducible intro hb)|(refine Xi ?_ ?_<;>try intro ht)|refine VD ?_ ?_|exact Xx|fail))<;>try with_reducible intro K hK)
  exact aT rfl rfl
def R2(w:Int)(h:w=1\/w=2\/w=3):ao Tryz.prog 66 [.lit (.int .u64 w)] [] (aah (nU w)) []:=by
 have h1:=R0 w h;generalize nU w=t at *;refine ao.aO 8 0 [.tmp 2] Tryz.func66 ?_;((try revert hK K);(repeat'(first|refine Vd X0 h1 ?_|(refine V2 X0 ?_ ?_<;>try with_reducible intro hb)|(refine Xi ?_ ?_<;>try intro ht)|refine VD ?_ ?_|exact Xx|fail))<;>try with_reducible intro K hK)
 exact oT rfl
variable {H:Type} {enc:TypeId×Value->H} {W:World} {sp:Nat->Bool} {base:Nat}
def ZU{fuel:Nat}{cs:List Value}{x:DataW H×List MemPlace}(h:DataW.trod enc Tryz.prog W base sp true fuel 23 cs=some x):
  ∃ (a:List (List Bool)) (v:Value),cs=[v]/\(∀ r∈a,r.length<9223372036854775808)/\a.length<=maxLen/\eR W (m6 W) (.tree 1 (rowsOf bE a)) v:=by
 refine Dz bE _ (e:=82) (by kernel_rfl) 1 (by kernel_rfl) Ha (λfuel cs x h hl=>?_) h;obtain⟨xs,v,rfl,h1,h2,h3⟩:=R3 (e:=4) (by kernel_rfl) (by kernel_rfl) (by kernel_rfl) h;refine⟨xs,by unfold maxLen at h2;omega,rfl,λc y hy=>?_⟩
 match c,hy with
 |0,hy=>simp[bE]at hy;subst hy;exact h3
def x5:List Int:=[0,1,56,2,57,49,28,3,61,58,42,50,38,29,17,4,62,47,59,36,45,43,51,22,53,39,33,30,24,18,12,5,63,55,48,27,60,41,37,16,46,35,44,21,52,32,23,11,54,26,40,15,34,20,31,10,25,14,19,9,13,8,7,6]
def ZV{W:World}(h:∀ i,i<x5.length->W.cell? ⟨1,i,none⟩=some (.int .u8 (x5.getD i 0))):AI W:=by
 intro g cs hg;unfold x6 at hg;rw[List.lookup_cons]at hg;split at hg
 ·rename_i e;obtain rfl:g=1:=by simpa using e
  simp only[Option.some.injEq]at hg;subst hg;have h0:=h 0 Ha;refine⟨?_,λj x hj=>?_⟩
  ·unfold World.cell? at h0;by_cases hs:1<W.heap.size
   ·exact hs
   ·rw[show W.heap[1]?=none by simp;omega]at h0;simp at h0
  ·have gR:j<x5.length:=by
    have:=(List.getElem?_eq_some_iff.1 hj).1;simpa [x5] using this
   rw[Nat.zero_add,h j gR];have mo:(x5.map (Value.int IntKind.u8))[j]?=some x:=hj;rw[List.getElem?_map,bc gR]at mo;rw[List.getD_eq_getElem?_getD,bc gR];exact mo
 ·cases hg
end T

