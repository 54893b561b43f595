import Derived.Test.YtodilglobhifaaaGreatDoorX43
import Derived.Test.YtodilglobhifaaaGreatDoorX38
import Derived.Test.YtodilglobhifaaaGreatDoorX45
set_option linter.all false
set_option maxHeartbeats 0
set_option maxRecDepth 20000
open List renaming mem_singleton→bK,length_map→eA,getD_eq_getElem?_getD→ax,getElem?_eq_getElem→aT,drop→fW
open Nat renaming le_refl→aM,zero_le→aS
open Go Go.Am Go.Proofs
namespace T
def SG(l:List (List Bool)):List AV:=[.tree 1 (rowsOf bl l)]
instance:Row SG 1:=⟨λ_=>rfl,λC v hv=>by
 unfold SG at hv;rw[bK]at hv;subst hv;exact .inr ⟨_,_,rfl⟩⟩
def aai(m:ah):iP m (lJ m):=by
 unfold lJ;refine⟨eA ..,λi hi=>?_⟩;rw[eA]at hi;rw[ax,List.getElem?_map,aT hi,ax,aT hi];simp
def aaj{m:ah}(hm:VM m)(hw:WK m)(h13:m.cls.length<=13):∃res:List Int×List (List (Int×Int))×Bool,
  ak Tryz.prog 13 [.agg (aB m),.tree 1 (rowsOf bl (iv m))] [] (.bH [.tree 1 (ints res.1),.tree 1 (rowsOf eZ res.2.1),.lit (.bool res.2.2)]) [] /\
  (res.2.2=true->ak Tryz.prog 17 [.agg (aB m),.agg (bZ [⟨-1,[],[],res.1,res.2.1⟩])] [] (.bH [aam 1099511627776,.lit (.bool true)]) []):=by
 have fS:iv m=lJ m:=by unfold iv;rw[if_pos (v5.2 hm)]
 have mh:iP m (iv m):=by rw[fS];exact aai m
 have hXn:=SH m (iv m);have hXl:=DJ hm.opt (left:=iv m) m.cls.length 0 (aM _) Bv;have HR:=HS (m:=m) (left:=iv m) (c:=m.cls.length) (i:=0) (.inr ⟨rfl,aM _⟩) (aS _);rw[yh]at hXl HR;have hXm:=λc i=>aao (m:=m) (left:=iv m) (c:=c) (i:=i);have pL:=RS m hXn;have jt:=x8 m (fU m (iv m));obtain⟨ky,aH⟩:=RY (N:=m.cls.length) (A:=kW m (fU m (iv m))) (λC hC y hy=>by
  obtain⟨x,hx,e⟩:=(pL.mem C).1 hC;rw[e]at hy;have:=(HR y (jt.sub x hx y hy).1).1;omega)
 have a1:=pL.oG;refine⟨_,aap hm hw mh h13 _ rfl,λaz=>?_⟩;have DK:=ky.mn Bv Bv (λc=>by have:=aH c;omega);have r9:=ky.left Bv Bv (λc=>by have:=aH c;omega);have cz:∀ C∈kW m (fU m (iv m)),C.length<=600:=λC hC=>by have:=(HT hC).1;omega
 have hcw:=aar rfl mh pL ky r9 HR hXm;generalize hLL:nR (kW m (fU m (iv m))) 0 (List.replicate m.cls.length [])=L at *;generalize kW m (fU m (iv m))=A at *;unfold Ds at az ⊢;rw[DK]at az ⊢;dsimp only at az ⊢;by_cases hG:(da L A.length).1=[]
 ·rw[if_pos hG]at az;cases az
 rw[if_neg hG];have l6:=hcw hG;have m7:=aas hm hG l6;have sc:=aat m [⟨-1,[],[],(da L A.length).1,gj gG (kX A (da L A.length)) []⟩] hm.mb ?_
 ·rw[m7]at sc;exact sc
 ·obtain⟨aE,mm,i1,i2,i3,i4,i5⟩:=Dt r9;have hGl:(da L A.length).1.length<=m.cls.length:=by rw[i3];have h1:=Ad aE 0;have h2:=ky.len;dsimp only;omega
  have tF:(da L A.length).2.length<=A.length:=by rw[i3];have h1:=Ad mm 0;dsimp only;omega
  refine⟨Jy,λx hx=>?_,λx hx=>?_,λx hx=>?_,λx hx=>?_,λx hx l hl=>?_⟩;all_goals
   rw[bK]at hx;subst hx
  ·simp
  ·simp
  ·dsimp only;omega
  ·dsimp only;rw[Ay];unfold kX;rw[eA];simp only[List.length_nil];omega
  ·have vN:=(Az gG _ _).mem_iff.1 hl;rw[List.nil_append]at vN;unfold kX at vN;obtain⟨n,_,rfl⟩:=List.mem_map.1 vN;refine Nat.lt_of_le_of_lt (List.length_filter_le _ _) ?_;by_cases hn:n.toNat<A.length
   ·have:=cz _ (aF (d:=[]) hn);omega
   ·rw[ax,List.getElem?_eq_none Bv];decide
def aeL(tape:List Int):ak Tryz.prog 4 [.tree 1 (ints tape)] [] (.lit (.bool true)) []:=by
 refine ak.aL 45 0 [.tmp 2] Tryz.func4 ?_;repeat'(first|((fail_if_success (first|refine gx 3 ?_|refine gy 3 ?_));refine Xq X0 ?_;intro K hK)|refine Xo X0 ?_|refine Xc (V4 _) ?_|refine Xc (HU) ?_|(refine hK _ ?_;clear hK K)|(refine Xg X0 ?_ ?_<;>try intro hb)|(refine Xi ?_ ?_<;>try intro ht)|refine XY ?_|refine Xd ?_ ?_|exact Xx|fail)
 ·exact aQ rfl rfl
 have hL:tape.length<1000000:=Bv;have tc:=aav tape 0 (aS _) hL;unfold fV at tc;refine pe 2 aac _ rfl ?_;intro K hK;simp(disch:=omega)only[Ac,↓Pc,simprocAttr,List.take,fW];(refine Xn [] (V6 tape) ?_;simp(disch:=omega)only[Ac,↓Pc,simprocAttr])
 refine⟨rfl,(show jS Tryz.prog 8 [.ptr 0 0 0] (some 15) _ _ from ?_)⟩;refine Cm [0] tc aac ⟨rfl,trivial⟩ ⟨.eq rfl,trivial⟩ ?_;rintro r os⟨m,k,kA,hm,hk,rfl,rfl⟩;simp(disch:=omega)only[Ac,↓Pc,simprocAttr,fW];refine hK _ ?_;clear hK K tc;repeat(first|refine Xu ?_)
 refine cU (σ':=⟨ao [(3,.ptr 0 0 0)],[.var (aB m)]⟩) (Xs false [1] @aB.eq_1) ?_;refine cU (aC.z6 3 0 (cells:=aB m) aal (by simp only[Kc,simprocAttr]) (by simp[aB])) ?_;have hA:=aaw m hm.mb;obtain⟨res,f1,f2⟩:=aaj kA hm.wks (by have:=hm.oG;omega);obtain⟨G,C,ok⟩:=res;dsimp only at f1 f2;generalize iv m=al at *;cases ok with
 |false =>
  ((try revert hK K);(repeat'(first|refine Vd @aB.eq_1 (X3 hA f1 HU) ?_|(refine V2 @aB.eq_1 ?_ ?_<;>try with_reducible intro hb)|(refine Xi ?_ ?_<;>try intro ht)|refine VD ?_ ?_|exact Xx|fail))<;>try with_reducible intro K hK)
  all_goals first|exact aQ rfl rfl|skip
 |true =>
  have f3:=f2 rfl;repeat'(first|((fail_if_success (first|refine gx 7 ?_|refine gy 7 ?_));refine Xq @aB.eq_1 ?_;intro K hK)|refine Xo @aB.eq_1 ?_|refine Xc (hA) ?_|refine Xc (f1) ?_|(refine hK _ ?_;clear hK K)|(refine Xg @aB.eq_1 ?_ ?_<;>try intro hb)|(refine Xi ?_ ?_<;>try intro ht)|refine Xy ?_|refine Xd ?_ ?_|exact Xx|fail)
  refine cU (σ':=⟨ao [(3,.bU (aB m)),(4,.tree 1 (ints G)),(5,.tree 1 (rowsOf eZ C))],[]⟩) (Xs false [] @aB.eq_1) ?_;refine PS 6 aac ?_;intro K K1 hK nT;simp(disch:=omega)only[Ac,↓Pc,simprocAttr,List.take];refine nT _ ⟨ao [(28,.agg (aB m)),(33,.agg (bZ [⟨-1,[],[],G,C⟩]))],[]⟩ ?_ ?_
  ·refine aC.ae [] true _ _ aac trivial aac aac ⟨.pure rfl,?_,trivial⟩;simp only[Kc,simprocAttr];refine bt.agg _ _ rfl (kJ.spec (R:=bt _ _ _ _) (cs:=bZ [⟨-1,[],[],G,C⟩]) (ds:=[.ref 0 5 0 1]) ⟨.snap _ _ rfl ?_,trivial⟩).2;exact df.mk rfl rfl (nE aac) (nD _) ⟨⟨.lit _,.nil 1,.nil 4,.tree _ _,.tree _ _,trivial⟩,trivial⟩
  clear nT K1;simp(disch:=omega)only[Ac,↓Pc,simprocAttr,fW];refine bx f3 rfl rfl ?_;simp(disch:=omega)only[Ac,↓Pc,simprocAttr];refine hK _ ?_;clear hK K;repeat(first|refine Xu ?_)
  ((try revert hK K);(repeat'(first|refine Vd X0 HU ?_|(refine V2 X0 ?_ ?_<;>try with_reducible intro hb)|(refine Xi ?_ ?_<;>try intro ht)|refine VD ?_ ?_|exact Xx|fail))<;>try with_reducible intro K hK)
  all_goals first|exact aQ rfl rfl|skip
end T

