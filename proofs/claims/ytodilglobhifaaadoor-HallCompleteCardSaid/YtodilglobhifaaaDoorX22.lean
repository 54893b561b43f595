import Derived.Test.YtodilglobhifaaaDoorX16
import Derived.Test.YtodilglobhifaaaDoorX21
set_option linter.all false
set_option maxHeartbeats 0
set_option maxRecDepth 20000
open List renaming mem_append→bn,mem_singleton→bB,length_nil→eZ,length_append→aJ,length_singleton→lH
open Int renaming toNat_of_nonneg→iS
open Go Go.Am Go.Proofs
namespace T
def n5(L:List Int)(k:Nat):Ob:=.var [.tree 1 (ints L),UX k]
def kM(L:List Int)(right:Int):Nat->Nat->List Int->List Int×Nat
 |0,k,acc=>(acc,k)
 |c+1,k,acc=>kM L right c (iw L k) (acc++[fN L k right])
def n7(L:List Int)(right:Int):Nat->Nat->List (List Int)->List (List Int)×Nat
 |0,k,acc=>(acc,k)
 |c+1,k,acc=>n7 L right c (kM L right (fN L k 4).toNat (iw L k) []).2 (acc++[(kM L right (fN L k 4).toNat (iw L k) []).1])
def KU{L:List Int}{r:Int}(hr:0<r):∀ (c k:Nat) (acc:List Int),(∀ x∈acc,0<=x/\x<r)->(∀ x∈(kM L r c k acc).1,0<=x/\x<r)/\(kM L r c k acc).1.length=acc.length+c
 |0,k,acc,h=>⟨h,rfl⟩
 |c+1,k,acc,h=>by
  rw[kM];obtain⟨a,b⟩:=KU hr c (iw L k) (acc++[fN L k r]) (λx hx=>by
   rcases bn.1 hx with hx|hx
   ·exact h x hx
   ·simp only[bB]at hx;subst hx;exact yF hr)
  exact⟨a,by rw[b];simp;omega⟩
def KV{L:List Int}{r:Int}(hr:0<r):∀ (c k:Nat) (acc:List (List Int)),(∀ l∈acc,l.length<=3/\∀ x∈l,0<=x/\x<r)->(∀ l∈(n7 L r c k acc).1,l.length<=3/\∀ x∈l,0<=x/\x<r)/\(n7 L r c k acc).1.length=acc.length+c
 |0,k,acc,h=>⟨h,rfl⟩
 |c+1,k,acc,h=>by
  rw[n7];have KW:=yF (L:=L) (k:=k) (n:=4) z8;obtain⟨a1,b1⟩:=KU hr (fN L k 4).toNat (iw L k) [] Eb;obtain⟨a,b⟩:=KV hr c (kM L r (fN L k 4).toNat (iw L k) []).2 (acc++[(kM L r (fN L k 4).toNat (iw L k) []).1]) (λl hl=>by
   rcases bn.1 hl with hl|hl
   ·exact h l hl
   ·simp only[bB]at hl;subst hl;exact⟨by rw[b1];simp;omega,a1⟩)
  exact⟨a,by rw[b];simp;omega⟩
def KX{L:List Int}{r:Int}:∀ (c k:Nat) (acc:List Int),k<=L.length->(kM L r c k acc).2<=L.length
 |0,k,acc,h=>h
 |c+1,k,acc,h=>by rw[kM];exact KX c _ _ (tF h)
def KY{L:List Int}{r:Int}:∀ (c k:Nat) (acc:List (List Int)),k<=L.length->(n7 L r c k acc).2<=L.length
 |0,k,acc,h=>h
 |c+1,k,acc,h=>by rw[n7];exact KY c _ _ (KX _ _ _ (tF h))
def Rg(L:List Int)(k0:Nat)(right:Int)(hr:rL right)(Bw:0<right)(we:k0<=L.length)(hL:L.length<1000000):∃(l:List (List Int)) (k':Nat),(l.length<=6/\∀ r∈l,r.length<=3/\∀ x∈r,0<=x/\x<right)/\k'<=L.length /\
  ao Tryd.prog 14 [.ptr 0 0 0,UX right] [n5 L k0] (.tree 1 (aU l)) [n5 L k']:=by
 generalize az:n7 L right (fN L k0 7).toNat (iw L k0) []=res;have Rh:=yF (L:=L) (k:=k0) (n:=7) z8;have cR:=KV (L:=L) Bw (fN L k0 7).toNat (iw L k0) [] Eb;have j5:=KY (L:=L) (r:=right) (fN L k0 7).toNat (iw L k0) [] (tF we);rw[az]at cR j5;refine⟨res.1,res.2,⟨by have:=cR.2;simp at this;omega,cR.1⟩,j5,?_⟩;unfold n5;refine ao.aX 32 1 [.tmp 4] Tryd.func14 ?_;((try revert hK K);(repeat'(first|refine Va X0 ?_|(refine V2 X0 ?_ ?_<;>try with_reducible intro hb)|(refine Xi ?_ ?_<;>try intro ht)|refine VD ?_ ?_|exact Xx|fail))<;>try with_reducible intro K hK)
 have lx:=BM L k0 7 (by unfold rL;omega) we hL;unfold n5 at lx;(refine Xn [0] (lx) ?_;simp(disch:=omega)only[Ac,↓Pc,simprocAttr])
 ((try revert hK K);(repeat'(first|refine Va X0 ?_|(refine V2 X0 ?_ ?_<;>try with_reducible intro hb)|(refine Xi ?_ ?_<;>try intro ht)|refine VD ?_ ?_|exact Xx|fail))<;>try with_reducible intro K hK)
 refine bu (λz:Nat×Nat×List (List Int)=>(⟨ax [(0,.ptr 0 0 0),(1,UX right),(5,.ref 1 1 0 z.2.2.length),(6,UX z.1)],[.var [.tree 1 (ints L),UX z.2.1],.arr 1 (aU z.2.2)]⟩:St))
  (λz=>z.1<=7/\z.2.1<=L.length/\z.2.2.length+z.1<=7/\n7 L right z.1 z.2.1 z.2.2=res) (λz=>z.1) ((fN L k0 7).toNat,iw L k0,[]) ⟨UT,tF we,by simp only[eZ];omega,az⟩ ?_ ?_
 ·refine aR.trans (aR.nil 5 1 (by simp only[Kc,simprocAttr]) US) ?_;have e7:(((fN L k0 7).toNat:Nat):Int)=fN L k0 7:=iS Rh.1;exact Xv @e7
 clear cR j5;rintro⟨c,k,acc⟩⟨hc,hk,hlen,kY⟩Ql aq aC;dsimp only at hc hk hlen kY ⊢;cases c with
 |zero =>
  rw[n7]at kY;((try revert hK K);(repeat'(first|refine Va X0 ?_|(refine V2 X0 ?_ ?_<;>try with_reducible intro hb)|(refine Xi ?_ ?_<;>try intro ht)|refine VD ?_ ?_|exact Xx|fail))<;>try with_reducible intro K hK)
  refine aC _ _ rfl ?_;clear aq aC Ql;repeat(first|refine Xu ?_)
  ((try revert hK K);(repeat'(first|refine Vb X0 ?_|(refine V2 X0 ?_ ?_<;>try with_reducible intro hb)|(refine Xi ?_ ?_<;>try intro ht)|refine VD ?_ ?_|exact Xx|fail))<;>try with_reducible intro K hK)
  rw[<- kY];exact Xw true [0] X0
 |succ c =>
  rw[n7]at kY;have KW:=yF (L:=L) (k:=k) (n:=4) z8;have lx:=BM L k 4 (by unfold rL;omega) hk hL;unfold n5 at lx;have dH:=tF hk;generalize aM:kM L right (fN L k 4).toNat (iw L k) []=row at kY;generalize iw L k=k2 at *;have e4:(((fN L k 4).toNat:Nat):Int)=fN L k 4:=iS KW.1;generalize fN L k 4=n4 at *;((try revert hK K);(repeat'(first|refine Va X0 ?_|(refine V2 X0 ?_ ?_<;>try with_reducible intro hb)|(refine Xi ?_ ?_<;>try intro ht)|refine VD ?_ ?_|exact Xx|fail))<;>try with_reducible intro K hK)
  (refine Xn [0] (lx) ?_;simp(disch:=omega)only[Ac,↓Pc,simprocAttr])
  ((try revert hK K);(repeat'(first|refine Va X0 ?_|(refine V2 X0 ?_ ?_<;>try with_reducible intro hb)|(refine Xi ?_ ?_<;>try intro ht)|refine VD ?_ ?_|exact Xx|fail))<;>try with_reducible intro K hK)
  refine bu (λz:Nat×Nat×List Int=>(⟨ax [(0,.ptr 0 0 0),(1,UX right),(5,.ref 1 1 0 acc.length),(6,UX (c+1:Nat)),(7,.ref 2 1 0 z.2.2.length),(8,UX z.1)],[.var [.tree 1 (ints L),UX z.2.1],.arr 1 (aU acc),.arr 1 (ints z.2.2)]⟩:St))
   (λz=>z.1<=4/\z.2.1<=L.length/\z.2.2.length+z.1<=4/\kM L right z.1 z.2.1 z.2.2=row) (λz=>z.1) (n4.toNat,k2,[]) ⟨UT,dH,by simp only[eZ];omega,aM⟩ ?_ ?_
  ·refine aR.trans (aR.nil 7 1 (by simp only[Kc,simprocAttr]) US) ?_;exact Xv @e4
  rintro⟨d,k3,xs⟩⟨hd,fW,Ri,fF⟩gu cr cy;dsimp only at hd fW Ri fF ⊢;cases d with
  |zero =>
   rw[kM]at fF;((try revert hK K);(repeat'(first|refine Va X0 ?_|(refine V2 X0 ?_ ?_<;>try with_reducible intro hb)|(refine Xi ?_ ?_<;>try intro ht)|refine VD ?_ ?_|exact Xx|fail))<;>try with_reducible intro K hK)
   refine cy _ _ rfl ?_;clear cr cy gu;repeat(first|refine Xu ?_)
   refine kB (aR.Rj 7 2 1 (rows:=ints xs) rfl (by rw[k7];simp only[Kc,simprocAttr]) (jv _) (mu _)) ?_;have xJ:aU acc++[[.tree 1 (ints xs)]]=aU (acc++[xs]):=by simp[aU]
   have gz:(aU acc).length=acc.length:=by simp[aU]
   have CZ:List.take acc.length (aU acc)=aU acc:=List.take_of_length_le z8;have mO:((c+1:Nat):Int)-1=c:=z8;((try revert hK K);(repeat'(first|refine Va (X4 @xJ @gz @CZ @mO) ?_|(refine V2 (X4 @xJ @gz @CZ @mO) ?_ ?_<;>try with_reducible intro hb)|(refine Xi ?_ ?_<;>try intro ht)|refine VD ?_ ?_|exact Xx|fail))<;>try with_reducible intro K hK)
   rw[<- fF]at kY;refine aq _ (c,k3,acc++[xs]) ⟨UT,fW,by simp only[aJ,lH];omega,kY⟩ UT ?_;exact Xs false [0,4] X0
  |succ d =>
   rw[kM]at fF;have lx:=BM L k3 right hr fW hL;unfold n5 at lx;have ze:=tF fW;generalize iw L k3=k4 at *;generalize fN L k3 right=v at *;have nr:ints xs++[[UX v]]=ints (xs++[v]):=by simp[ints]
   have n8:((d+1:Nat):Int)-1=d:=z8;((try revert hK K);(repeat'(first|refine Va X0 ?_|(refine V2 X0 ?_ ?_<;>try with_reducible intro hb)|(refine Xi ?_ ?_<;>try intro ht)|refine VD ?_ ?_|exact Xx|fail))<;>try with_reducible intro K hK)
   (refine Xn [0] (lx) ?_;simp(disch:=omega)only[Ac,↓Pc,simprocAttr])
   ((try revert hK K);(repeat'(first|refine Va (X2 @nr @n8) ?_|(refine V2 (X2 @nr @n8) ?_ ?_<;>try with_reducible intro hb)|(refine Xi ?_ ?_<;>try intro ht)|refine VD ?_ ?_|exact Xx|fail))<;>try with_reducible intro K hK)
   refine cr _ (d,k4,xs++[v]) ⟨UT,ze,by simp only[aJ,lH];omega,fF⟩ UT ?_;exact Xs false [0,1,4] X0
structure je(q:Nat)(m:ae):Prop where
 mb:MB m
 qq:m.cls.length<=q
 opt:∀ l∈m.cls,l.length<=25
abbrev OM(m:ae):Prop:=je 25 m
def je.mono{q r:Nat}{m:ae}(h:je q m)(hr:q<=r):je r m:=⟨h.mb,Nat.le_trans h.qq hr,h.opt⟩
def je.rules{q:Nat}{m:ae}(h:je q m)(r:Int):je q ⟨m.cls,m.aj,m.cz,r⟩:=⟨⟨h.mb.cls,h.mb.opt,h.mb.ch,h.mb.aj,h.mb.dw,h.mb.cz,h.mb.vw⟩,h.qq,h.opt⟩
def je.aj{q:Nat}{m:ae}(h:je q m){l:List Pr}(h1:l.length<9223372036854775808)(h2:∀ p∈l,p.dw.length<9223372036854775808):je q ⟨m.cls,l,m.cz,m.rules⟩:=⟨⟨h.mb.cls,h.mb.opt,h.mb.ch,h1,h2,h.mb.cz,h.mb.vw⟩,h.qq,h.opt⟩
def je.cz{q:Nat}{m:ae}(h:je q m){l:List Ct}(h1:l.length<9223372036854775808)(h2:∀ p∈l,p.ei.length<9223372036854775808):je q ⟨m.cls,m.aj,l,m.rules⟩:=⟨⟨h.mb.cls,h.mb.opt,h.mb.ch,h.mb.aj,h.mb.dw,h1,h2⟩,h.qq,h.opt⟩
def je.cls{q:Nat}{m:ae}(h:je q m)(hq:q<=25){l:List (List cD)}(h1:l.length<=q)(h2:∀ x∈l,x.length<=25/\∀ o∈x,o.ch.length<9223372036854775808):je q ⟨l,m.aj,m.cz,m.rules⟩ :=
 ⟨⟨UT,λx hx=>by have:=(h2 x hx).1;omega,λx hx=>(h2 x hx).2,h.mb.aj,h.mb.dw,h.mb.cz,h.mb.vw⟩,h1,λx hx=>(h2 x hx).1⟩
def VM.om{m:ae}(h:VM m):OM m:=⟨h.mb,by have:=h.cls;omega,λl hl=>by have:=h.opt l hl;omega⟩
structure Ul(q:Nat)(m m':ae):Prop where
 om:je (q+1) m'
 cl:m'.cls=m.cls\/∃ x,(∀ o∈x,o.wk<=3)/\m'.cls=m.cls++[x]
end T

