import Derived.Test.YtodilglobhifaaaGreatDoorX14
import Derived.Test.YtodilglobhifaaaGreatDoorX18
import Derived.Test.YtodilglobhifaaaGreatDoorX08
set_option linter.all false
set_option maxHeartbeats 0
set_option maxRecDepth 20000
open Nat renaming zero_le→aS,reduceBEq→oT,zero_add→gw
open List renaming take_zero→qT,take_succ_eq_append_getElem→Jq,getD_eq_getElem?_getD→ax,getElem?_eq_getElem→aT,take_of_length_le→fD,getElem?_eq_some_iff→aN
open And renaming intro→iI
open Option renaming getD_none→qU,isNone_none→yM,getD_some→dE,isNone_some→vf,some→cL
open Go Go.Am Go.Proofs
open Go Go.Am Go.Proofs Go.ChangeShapes Go.WideShapes Go.ChangeAt Go.RowKit
namespace T
def bl(l:List Bool):List AV:=[.tree 1 (b8 l)]
instance:Row bl 1:=⟨λ_=>rfl,λl v hv=>by
 simp only[bl,List.mem_singleton]at hv;subst hv;exact .inr ⟨_,_,rfl⟩⟩
def BL:BM Tryz.prog 208 (.map none):=⟨_,_,rfl,rfl,λw=>aal⟩
def U6:BM Tryz.prog 209 (.int .i64 0):=⟨_,_,rfl,rfl,λw=>aal⟩
def U7:BN Tryz.prog 208:=⟨_,_,rfl,rfl⟩
def JQ:BN Tryz.prog 209:=⟨_,_,rfl,rfl⟩
def U8:sJ Tryz.prog 208:=⟨_,_,rfl⟩
def BO:sJ Tryz.prog 209:=⟨_,_,rfl⟩
def U9(c:Ct)(left:List (List Bool))(n:Nat)(aen:left.length<=n)(hc:∀ x∈c.bQ,(0<=x.cls/\x.cls<left.length)/\1<=x.wt/\x.wt<=1000)(hl:left.length<=1000)(bf:∀ r∈left,r.length<=1000)(cJ:c.bQ.length<9223372036854775808)(hm:0<=c.most)(hp:bL c.bW):
  ak Tryz.prog 130 [.agg (cN c),.tree 1 (rowsOf bl left)] [] (aam (oX left c)) []:=by
 refine ak.aL 80 0 [.tmp 4] Tryz.func130 ?_;refine U' ?_;repeat'(first|(((refine mr ?_);intro K hK) ;simp(disch:=omega)only[Ac,↓Pc,simprocAttr,Mc])|(refine hK _ _ ?_;clear hK K))
 refine JR λb0 sK=>?_;repeat'(first|(((refine mr ?_);intro K hK) ;simp(disch:=omega)only[Ac,↓Pc,simprocAttr,Mc])|(with_reducible refine gO ?_;simp(disch:=omega)only[Ac,↓Pc,simprocAttr,Mc])|(refine hK _ _ ?_;clear hK K)|(refine ug ?_;intro Qb iU j7 mF)|(refine q8 ?_;intro Q hn he))
 refine E8 (λk:Nat=>(⟨ao [(1,.tree 1 (rowsOf bl left)),(2,.ptr 0 0 0),(5,.lit (.map (some b0))),(17,.tree 3 (rowsOf kH c.bQ)),(18,aam c.bQ.length),(19,aam k)],[.var (cN c)]⟩:St))
  (λk m=>k<=c.bQ.length/\∃ A,GI left.length (c.bQ.take k) A b0 m) (λk=>c.bQ.length-k) 0 ⟨aS _,[],by rw[qT];exact GI.nil (uh _ _ _)⟩ (by(refine j8.ao _ _ rfl ?_;simp only[Tc,↓reduceIte,Nat.reduceEqDiff,oT,Nat.reduceAdd];try trivial)) ?_
 rintro k m0⟨hk,A,hA⟩Ql an aw;by_cases aY:k<c.bQ.length
 ·have hx:=hc _ (aF (d:=default) aY);have lV:c.bQ.take (k+1)=c.bQ.take k++[c.bQ.getD k default]:=by
   rw[Jq aY,ax,aT aY];rfl
  generalize br:c.bQ.getD k default=x at *;repeat'(first|(((refine mr ?_);intro K hK) ;simp(disch:=omega)only[Ac,↓Pc,simprocAttr,br,Mc])|(refine hK _ _ ?_;clear hK K)|(refine mc (λht=>?_) (λht=>?_)<;>(try simp only[lW,simprocAttr]at ht))|refine sL rfl ?_|(refine ug ?_;intro Qb iU j7 mF)|(refine q8 ?_;intro Q hn he)|((first|refine hn _ _ ?_|refine he _ _ _ rfl ?_);clear hn he;try clear Q)|with_reducible refine iI ?_ ?_|omega)
  have fin:∀ A1 m1,GI left.length (c.bQ.take k) A1 b0 m1->(∃ e∈A1,e.1=x.cls)->∃ e∈A1,e.1=x.cls/\kI x.cls (gE A1)=some (.map (some e.2.1)):=λA1 m1 h1 h2=>by
   rcases E9 x.cls A1 with⟨_,g⟩|g
   ·obtain⟨e,he,hh⟩:=h2;exact absurd hh (g e he)
   ·exact g
  rcases E9 x.cls A with⟨g1,g2⟩|⟨e0,g1,g2,g3⟩
  ·refine za (by simp only[Kc,simprocAttr]<;>exact rfl) (by simp only[Kc,simprocAttr]<;>exact rfl) BL hA.top ?_;rw[g1];repeat'(first|(((refine vt ?_);intro K hK) ;simp(disch:=omega)only[Ac,↓Pc,simprocAttr,BO,qU,yM,Mc])|(with_reducible refine gO ?_;simp(disch:=omega)only[Ac,↓Pc,simprocAttr,BO,qU,yM,Mc])|(refine hK _ _ ?_;clear hK K)|(refine mc (λht=>?_) (λht=>?_)<;>(try simp only[lW,simprocAttr]at ht)))
   refine JR λb hb=>?_;(with_reducible refine gO ?_;simp(disch:=omega)only[Ac,↓Pc,simprocAttr,Mc])
   refine E' (by simp only[Kc,simprocAttr]<;>exact rfl) (by simp only[Kc,simprocAttr]<;>exact rfl) (by simp only[Kc,simprocAttr]<;>exact rfl) U7 (by rw[q9 _ _ (λe=>by rw[<- e,hA.top]at hb;cases hb)];exact hA.top) ?_;have pT:=hA.new hx.1 g2 hb;obtain⟨e1,k1,k2,k3⟩:=fin _ _ pT ⟨(x.cls,b,[]),Jy,rfl⟩;repeat'(first|(((refine vt ?_);intro K hK) ;simp(disch:=omega)only[Ac,↓Pc,simprocAttr,br,Mc])|(refine hK _ _ ?_;clear hK K)|((refine hn _ _ ?_);clear hn he;try clear Q))
   refine za (by simp only[Kc,simprocAttr]<;>exact rfl) (by simp only[Kc,simprocAttr]<;>exact rfl) BL pT.top ?_;rw[k3];(with_reducible refine gO ?_;simp(disch:=omega)only[Ac,↓Pc,simprocAttr,br,dE,Mc])
   refine E' (by simp only[Kc,simprocAttr]<;>exact rfl) (by simp only[Kc,simprocAttr]<;>exact rfl) (by simp only[Kc,simprocAttr]<;>exact rfl) JQ (pT.sub e1 k1) ?_;repeat'(first|(((refine vt ?_);intro K hK) ;simp(disch:=omega)only[Ac,↓Pc,simprocAttr,Mc])|(refine hK _ _ ?_;clear hK K)|((refine hn _ _ ?_);clear hn he;try clear Q)|((refine iU _ _ ?_);clear iU j7 mF;try clear Qb)|with_reducible refine iI ?_ ?_|omega)
   exact an _ _ (k+1) ⟨Bv,_,by rw[lV];exact pT.put k1 k2⟩ Bv (by(refine j8.se [0] false (by simp only[Oc,simprocAttr]) ?_;simp only[Hr,↓reduceIte,Nat.reduceEqDiff,oT,Nat.reduceAdd];try(and_intros<;>first|exact .pure rfl|exact .eq rfl|exact .fz rfl (by simp only[Bc,Rc]))))
  ·refine za (by simp only[Kc,simprocAttr]<;>exact rfl) (by simp only[Kc,simprocAttr]<;>exact rfl) BL hA.top ?_;rw[g3];repeat'(first|(((refine vt ?_);intro K hK) ;simp(disch:=omega)only[Ac,↓Pc,simprocAttr,BO,dE,vf,Mc])|(with_reducible refine gO ?_;simp(disch:=omega)only[Ac,↓Pc,simprocAttr,BO,dE,vf,Mc])|(refine hK _ _ ?_;clear hK K)|(refine mc (λht=>?_) (λht=>?_)<;>(try simp only[lW,simprocAttr]at ht))|refine sL rfl ?_|((refine hn _ _ ?_);clear hn he;try clear Q))
   refine za (by simp only[Kc,simprocAttr]<;>exact rfl) (by simp only[Kc,simprocAttr]<;>exact rfl) BL hA.top ?_;rw[g3];(with_reducible refine gO ?_;simp(disch:=omega)only[Ac,↓Pc,simprocAttr,br,dE,Mc])
   refine E' (by simp only[Kc,simprocAttr]<;>exact rfl) (by simp only[Kc,simprocAttr]<;>exact rfl) (by simp only[Kc,simprocAttr]<;>exact rfl) JQ (hA.sub e0 g1) ?_;repeat'(first|(((refine vt ?_);intro K hK) ;simp(disch:=omega)only[Ac,↓Pc,simprocAttr,Mc])|(refine hK _ _ ?_;clear hK K)|((refine hn _ _ ?_);clear hn he;try clear Q)|((refine iU _ _ ?_);clear iU j7 mF;try clear Qb)|with_reducible refine iI ?_ ?_|omega)
   exact an _ _ (k+1) ⟨Bv,_,by rw[lV];exact hA.put g1 g2⟩ Bv (by(refine j8.se [0] false (by simp only[Oc,simprocAttr]) ?_;simp only[Hr,↓reduceIte,Nat.reduceEqDiff,oT,Nat.reduceAdd];try(and_intros<;>first|exact .pure rfl|exact .eq rfl|exact .fz rfl (by simp only[Bc,Rc]))))
 ·rw[fD Bv]at hA;repeat'(first|(((refine mr ?_);intro K hK) ;simp(disch:=omega)only[Ac,↓Pc,simprocAttr,Mc])|(refine hK _ _ ?_;clear hK K)|(refine mc (λht=>?_) (λht=>?_)<;>(try simp only[lW,simprocAttr]at ht))|refine sL rfl ?_|(refine ug ?_;intro Qb iU j7 mF)|(refine q8 ?_;intro Q hn he)|((first|refine hn _ _ ?_|refine he _ _ _ rfl ?_);clear hn he;try clear Q)|with_reducible refine iI ?_ ?_|omega)
  refine aw _ _ _ rfl ?_;clear an aw Ql;repeat(first|((refine hn _ _ ?_);clear hn he;try clear Q)|((refine j7 _ _ ?_);clear iU j7 mF;try clear Qb))
  repeat'(first|(((refine mr ?_);intro K hK) ;simp(disch:=omega)only[Ac,↓Pc,simprocAttr,Mc])|(refine hK _ _ ?_;clear hK K)|(refine q8 ?_;intro Q hn he))
  have Ve:=hA.iz;have Vf:=hA.sum;have BP:∀ x∈c.bQ,1<=x.wt/\x.wt<=1000:=λx hx=>(hc x hx).2;have pU:=JS BP left;generalize hf:(λj:Nat=>oY c.bQ (A.getD j (0,0,[])).1 (left.getD (A.getD j (0,0,[])).1.toNat []))=f;have zb:∀ j,oY c.bQ (A.getD j (0,0,[])).1 (left.getD (A.getD j (0,0,[])).1.toNat [])=f j:=λj=>by rw[<- hf]
  have dC:∀ j,0<=f j/\f j<=1000:=λj=>by rw[<- zb];exact JT BP _ _
  have Vg:A.length<=left.length:=hA.len;refine Vh (by simp only[Kc,simprocAttr]<;>exact rfl) U8 hA.top λr hr=>?_;repeat'(first|(refine hK _ _ ?_;clear hK K)|(refine ug ?_;intro Qb iU j7 mF))
  refine E8 (λseen:List Nat=>(⟨ao [(1,.tree 1 (rowsOf bl left)),(2,.ptr 0 0 0),(8,aam (q' f seen A.length)),(42,.lit (.pointer (some ⟨r,0,none⟩)))],[.var (cN c)]⟩:St))
   (λseen m=>GI left.length c.bQ A b0 m/\m r=some (.iter b0 A.length seen)) (λseen=>BQ seen A.length) [] ⟨hA.other _ (λl=>by rw[hr];simp),by rw[uh,BR]⟩ (by(refine j8.ao _ _ rfl ?_;simp only[Tc,↓reduceIte,Nat.reduceEqDiff,oT,Nat.reduceAdd,Vi];try trivial)) ?_
  rintro seen m1⟨pT,re⟩Ql an aw;(((refine mr ?_);intro K hK) ;simp(disch:=omega)only[Ac,↓Pc,simprocAttr,Mc])
  refine Vj (b:=b0) (seen:=seen) (ents:=iE (gE A)) (by simp only[Kc,simprocAttr]<;>exact rfl) (by rw[BR];exact re) pT.top (λhall=>?_) (λj p hp hj=>?_)
  ·rw[BR]at hall;rw[Vk hall,<- hf,JU (λc'=>oY c.bQ c' (left.getD c'.toNat [])),Vf];repeat'(first|(with_reducible refine gO ?_;simp(disch:=omega)only[Ac,↓Pc,simprocAttr,Mc])|(refine hK _ _ ?_;clear hK K)|(refine mc (λht=>?_) (λht=>?_)<;>(try simp only[lW,simprocAttr]at ht))|refine sL rfl ?_|(refine q8 ?_;intro Q hn he)|((refine he _ _ _ rfl ?_);clear hn he;try clear Q))
   refine aw _ _ _ rfl ?_;clear an aw Ql;repeat(first|((refine hn _ _ ?_);clear hn he;try clear Q)|((refine j7 _ _ ?_);clear iU j7 mF;try clear Qb))
   repeat'(first|(((refine mr ?_);intro K hK) ;simp(disch:=omega)only[Ac,↓Pc,simprocAttr,Mc])|(refine bx (Vl c (pV c.bQ 0 left 0) hm Bv pU.1 hp) rfl rfl ?_)|(refine hK _ _ ?_;clear hK K)|refine sL rfl ?_)
   refine Xe ?_;first|refine aQ rfl ?_|refine Xl ?_ ?_
   rfl
  ·rw[JV,JW]at hp;cases he:A[j]? with
   |none=>rw[he]at hp;simp at hp
   |some e =>
    rw[he]at hp;simp only[Option.map_some,cL.injEq]at hp;subst hp;have fF:=(aN.1 he).1;have BS:A.getD j (0,0,[])=e:=by rw[ax,he];rfl
    have BT:e∈A:=List.mem_of_getElem? he;obtain⟨jO,iK⟩:=Ve e BT;have JX:=zb j;rw[BS]at JX;have hval:=pT.val e BT;have Vm:=pT.sub e BT;have dK:=bf _ (aF (l:=left) (i:=e.1.toNat) (d:=[]) Bv);have hsi:=Vn (f:=f) (B:=1000) (seen:=seen) (n:=A.length) Bv λi _=>dC i;have c9:=Vo (f:=f) fF hj;have bq:=Vp fF hj;generalize BU:left.getD e.1.toNat []=row at *;have JY:left.getD e.1.toNat default=row:=BU;repeat'(first|(((refine mr ?_);intro K hK) ;simp(disch:=omega)only[Ac,↓Pc,simprocAttr,Mc])|(with_reducible refine gO ?_;simp(disch:=omega)only[Ac,↓Pc,simprocAttr,Mc])|(refine hK _ _ ?_;clear hK K)|(refine mc (λht=>?_) (λht=>?_)<;>(try simp only[lW,simprocAttr]at ht))|refine sL rfl ?_|(refine ug ?_;intro Qb iU j7 mF)|(refine q8 ?_;intro Q hn he)|((refine hn _ _ ?_);clear hn he;try clear Q))
    refine Vq (seen:=seen) (j:=j) (b:=b0) (ents:=iE (gE A)) (q:=(.int .i64 e.1,.map (some e.2.1))) (by simp only[Kc,simprocAttr]<;>exact rfl) (uh _ _ _) (by rw[q9 _ _ (λe2=>by rw[<- e2,pT.top]at re;cases re)];exact pT.top) (by rw[JV,JW,he];rfl) ?_;repeat'(first|(((refine mr ?_);intro K hK) ;simp(disch:=omega)only[Ac,↓Pc,simprocAttr,JY,bl,Mc])|(with_reducible refine gO ?_;simp(disch:=omega)only[Ac,↓Pc,simprocAttr,JY,bl,Mc])|(refine hK _ _ ?_;clear hK K)|(refine ug ?_;intro Qb iU j7 mF)|(refine q8 ?_;intro Q hn he)|with_reducible refine iI ?_ ?_|omega)
    generalize j9:jh m1 r (.iter b0 (iE (gE A)).length (seen++[j]))=m2;have gZ:m2 r=some (.iter b0 A.length (seen++[j])):=by rw[<- j9,uh,BR]
    have Fa:GI left.length c.bQ A b0 m2:=by rw[<- j9];exact pT.other _ λl=>by rw[re];simp
    have Vr:=Fa.sub e BT;clear Vm;refine E8 (λo:Nat=>(⟨ao [(1,.tree 1 (rowsOf bl left)),(2,.ptr 0 0 0),(8,aam (q' f seen A.length)),(42,.lit (.pointer (some ⟨r,0,none⟩))),(10,.lit (.map (some e.2.1))),(11,aam (jk c.bQ e.1 0 (row.take o) (-1))),(51,.tree 1 (b8 row)),(52,aam row.length),(53,aam o)],[.var (cN c)]⟩:St))
     (λo m=>o<=row.length/\m=m2) (λo=>row.length-o) 0 ⟨aS _,rfl⟩ (by(refine j8.ao _ _ rfl ?_;simp only[Tc,↓reduceIte,Nat.reduceEqDiff,oT,Nat.reduceAdd,qT,jk];try trivial)) ?_
    rintro o m3⟨ho,rfl⟩dh bc bz;have hb:=Fb BP e.1 (row.take o) 0 (-1) Bv;by_cases cD:o<row.length
    ·have lV:jk c.bQ e.1 0 (row.take (o+1)) (-1)=if row.getD o false=true/\(jk c.bQ e.1 0 (row.take o) (-1)<0\/lX c.bQ e.1 o 0<jk c.bQ e.1 0 (row.take o) (-1)) then lX c.bQ e.1 o 0 else jk c.bQ e.1 0 (row.take o) (-1):=by
      rw[Jq cD,JZ,ax,aT cD,List.length_take,Nat.min_eq_left Bv,gw];rfl
     have hw:=J0 BP e.1 o 0 Bv;have hv:=hval o;generalize jk c.bQ e.1 0 (row.take o) (-1)=b at *;generalize lX c.bQ e.1 o 0=w at *;generalize BV:row.getD o false=is at *;repeat'(first|(((refine mr ?_);intro K hK) ;simp(disch:=omega)only[Ac,↓Pc,simprocAttr,BV,Mc])|(refine hK _ _ ?_;clear hK K)|(refine mc (λht=>?_) (λht=>?_)<;>(try simp only[lW,simprocAttr]at ht))|refine sL rfl ?_|(refine ug ?_;intro Qb iU j7 mF)|(refine q8 ?_;intro Q hn he)|((first|refine hn _ _ ?_|refine he _ _ _ rfl ?_);clear hn he;try clear Q)|with_reducible refine iI ?_ ?_|omega)
     refine za (by simp only[Kc,simprocAttr]<;>exact rfl) (by simp only[Kc,simprocAttr]<;>exact rfl) U6 Vr ?_;rw[J1,hv];repeat'(first|(((first|refine mr ?_|refine vt ?_);intro K hK) ;simp(disch:=omega)only[Ac,↓Pc,simprocAttr,BV,Mc])|(with_reducible refine gO ?_;simp(disch:=omega)only[Ac,↓Pc,simprocAttr,BV,Mc])|(refine hK _ _ ?_;clear hK K)|(with_reducible refine gS (λbO=>?_) (λbO=>?_)<;>(have hb:=bO;(try simp only[lW,simprocAttr]at hb);simp(disch:=omega)only[Ac,↓Pc,simprocAttr,BV,Mc,bO];clear bO))|(refine mc (λht=>?_) (λht=>?_)<;>(try simp only[lW,simprocAttr]at ht))|refine sL rfl ?_|((refine hn _ _ ?_);clear hn he;try clear Q)|((refine iU _ _ ?_);clear iU j7 mF;try clear Qb)|with_reducible refine iI ?_ ?_|omega)
     all_goals
      refine bc _ _ (o+1) ⟨Bv,rfl⟩ Bv ?_;simp only[lV];first
       |rw[if_pos ⟨by assumption,Bv⟩]
       |rw[if_neg (by rintro⟨h1,h2⟩;first|omega|(simp only[h1]at *;contradiction)|simp_all)]
      (refine j8.ao _ _ rfl ?_;simp only[Tc,↓reduceIte,Nat.reduceEqDiff,oT,Nat.reduceAdd];try trivial)
    ·rw[fD Bv]at hb;have eK:max (jk c.bQ e.1 0 row (-1)) 0=f j:=JX;repeat'(first|(((refine mr ?_);intro K hK) ;simp(disch:=omega)only[Ac,↓Pc,simprocAttr,fD (show row.length<=o by omega),Mc])|(refine hK _ _ ?_;clear hK K)|(refine mc (λht=>?_) (λht=>?_)<;>(try simp only[lW,simprocAttr]at ht))|refine sL rfl ?_|(refine ug ?_;intro Qb iU j7 mF)|(refine q8 ?_;intro Q hn he)|((first|refine hn _ _ ?_|refine he _ _ _ rfl ?_);clear hn he;try clear Q)|with_reducible refine iI ?_ ?_|omega)
     refine bz _ _ _ rfl ?_;clear bc bz dh;repeat(first|((refine hn _ _ ?_);clear hn he;try clear Q)|((refine j7 _ _ ?_);clear iU j7 mF;try clear Qb))
     repeat'(first|(((refine vt ?_);intro K hK) ;simp(disch:=omega)only[Ac,↓Pc,simprocAttr,Mc])|(refine hK _ _ ?_;clear hK K)|((refine iU _ _ ?_);clear iU j7 mF;try clear Qb)|with_reducible refine iI ?_ ?_|omega)
     exact an _ _ (seen++[j]) ⟨Fa,gZ⟩ bq (by simp only[c9,<- eK];(refine j8.ao _ _ rfl ?_;simp only[Tc,↓reduceIte,Nat.reduceEqDiff,oT,Nat.reduceAdd];try trivial))
def xh:List AV:=([0,1,56,2,57,49,28,3,61,58,42,50,38,29,17,4,62,47,59,36,45,43,51,22,53,39,33,30,24,18,12,5,63,55,48,27,60,41,37,16,46,35,44,21,52,32,23,11,54,26,40,15,34,20,31,10,25,14,19,9,13,8,7,6]:List Int).map λx=>.lit (.int .u8 x)
def Vs:sM 1=.bU xh:=rfl
def J2:xh.drop 0=.lit (.int .u8 0)::xh.drop 1:=rfl
def Vt:xh.drop 1=.lit (.int .u8 1)::xh.drop 2:=rfl
def Fc{t e:Ty}{σ:St}{dst:Option Tmp}{K:St->Prop}{x:AV}{n:Int}{c:List AV}(i:Nat)(h:x=sM 1)(h1:t.kind=2)(h2:e.kind≠99)(h3:n=i)(h4:i<t.len)(h5:e.size=1)(hc:xh.drop i=c)(k:K (σ.put dst (.bU c))):mG t e σ dst K x (.lit (.int .u64 n)):=by
 subst h h3 hc;rw[Vs];refine⟨h1,⟨h2,Bv,Bv⟩,?_⟩;rw[h5,Nat.mul_one,Int.toNat_natCast];exact k
def Vu(w:Int)(h:w=1\/w=2\/w=3):ak Tryz.prog 103 [.lit (.int .u64 w)] [] (aam (oZ w)) []:=by
 have e1:IntKind.u64.wrap (sN IntKind.u64 1 (IntKind.u64.wrap (-1))*285870213051353865)/288230376151711744=0:=by decide +kernel
 have e2:IntKind.u64.wrap (sN IntKind.u64 2 (IntKind.u64.wrap (-2))*285870213051353865)/288230376151711744=1:=by decide +kernel
 have e3:IntKind.u64.wrap (sN IntKind.u64 3 (IntKind.u64.wrap (-3))*285870213051353865)/288230376151711744=0:=by decide +kernel
 rcases h with rfl|rfl|rfl
 ·refine ak.aL 14 0 [.tmp 2] Tryz.func103 ?_;repeat'(first|((fail_if_success (first|refine gx 4 ?_|refine gy 4 ?_));refine Xr X0 ?_;intro K hK)|refine Xo X0 ?_|(refine hK _ ?_;clear hK K)|(refine Xg X0 ?_ ?_<;>try intro hb)|(refine Xi ?_ ?_<;>try intro ht)|refine XY ?_|refine Xd ?_ ?_|exact Xx|fail)
  ·decide
  simp only[e1];refine Fc 0 rfl rfl aac rfl aac rfl J2 ?_;((try revert hK K);(repeat'(first|refine Vb X0 ?_|(refine V2 X0 ?_ ?_<;>try with_reducible intro hb)|(refine Xi ?_ ?_<;>try intro ht)|refine VD ?_ ?_|exact Xx|fail))<;>try with_reducible intro K hK)
  ·rfl
  exact aQ aac rfl
 ·refine ak.aL 14 0 [.tmp 2] Tryz.func103 ?_;repeat'(first|((fail_if_success (first|refine gx 4 ?_|refine gy 4 ?_));refine Xr X0 ?_;intro K hK)|refine Xo X0 ?_|(refine hK _ ?_;clear hK K)|(refine Xg X0 ?_ ?_<;>try intro hb)|(refine Xi ?_ ?_<;>try intro ht)|refine XY ?_|refine Xd ?_ ?_|exact Xx|fail)
  ·decide
  simp only[e2];refine Fc 1 rfl rfl aac rfl aac rfl Vt ?_;((try revert hK K);(repeat'(first|refine Vb X0 ?_|(refine V2 X0 ?_ ?_<;>try with_reducible intro hb)|(refine Xi ?_ ?_<;>try intro ht)|refine VD ?_ ?_|exact Xx|fail))<;>try with_reducible intro K hK)
  ·rfl
  exact aQ aac rfl
 ·refine ak.aL 14 0 [.tmp 2] Tryz.func103 ?_;repeat'(first|((fail_if_success (first|refine gx 4 ?_|refine gy 4 ?_));refine Xr X0 ?_;intro K hK)|refine Xo X0 ?_|(refine hK _ ?_;clear hK K)|(refine Xg X0 ?_ ?_<;>try intro hb)|(refine Xi ?_ ?_<;>try intro ht)|refine XY ?_|refine Xd ?_ ?_|exact Xx|fail)
  ·decide
  simp only[e3];refine Fc 0 rfl rfl aac rfl aac rfl J2 ?_;((try revert hK K);(repeat'(first|refine Vb X0 ?_|(refine V2 X0 ?_ ?_<;>try with_reducible intro hb)|(refine Xi ?_ ?_<;>try intro ht)|refine VD ?_ ?_|exact Xx|fail))<;>try with_reducible intro K hK)
  ·rfl
  exact aQ aac rfl
def Vv(w:Int)(h:w=1\/w=2\/w=3):ak Tryz.prog 66 [.lit (.int .u64 w)] [] (aam (oZ w)) []:=by
 have h1:=Vu w h;generalize oZ w=t at *;refine ak.aL 8 0 [.tmp 2] Tryz.func66 ?_;((try revert hK K);(repeat'(first|refine Vd X0 h1 ?_|(refine V2 X0 ?_ ?_<;>try with_reducible intro hb)|(refine Xi ?_ ?_<;>try intro ht)|refine VD ?_ ?_|exact Xx|fail))<;>try with_reducible intro K hK)
 exact pW rfl
variable {H:Type} {enc:TypeId×Value->H} {W:World} {sp:Nat->Bool} {base:Nat}
def zc:List Int:=[0,1,56,2,57,49,28,3,61,58,42,50,38,29,17,4,62,47,59,36,45,43,51,22,53,39,33,30,24,18,12,5,63,55,48,27,60,41,37,16,46,35,44,21,52,32,23,11,54,26,40,15,34,20,31,10,25,14,19,9,13,8,7,6]
def aep{W:World}(h:∀ i,i<zc.length->W.cell? ⟨1,i,none⟩=some (.int .u8 (zc.getD i 0))):BW W:=by
 intro g cs hg;unfold zd at hg;rw[List.lookup_cons]at hg;split at hg
 ·rename_i e;obtain rfl:g=1:=by simpa using e
  simp only[cL.injEq]at hg;subst hg;have h0:=h 0 aac;refine⟨?_,λj x hj=>?_⟩
  ·unfold World.cell? at h0;by_cases hs:1<W.heap.size
   ·exact hs
   ·rw[show W.heap[1]?=none by simp;omega]at h0;simp at h0
  ·have fF:j<zc.length:=by
    have:=(aN.1 hj).1;simpa [zc] using this
   rw[gw,h j fF];have nv:(zc.map (Value.int IntKind.u8))[j]?=some x:=hj;rw[List.getElem?_map,aT fF]at nv;rw[ax,aT fF];exact nv
 ·cases hg
end T

