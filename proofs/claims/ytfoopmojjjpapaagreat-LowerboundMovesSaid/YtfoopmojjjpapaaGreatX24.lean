import Derived.Test.YtfoopmojjjpapaaGreatX23
import Derived.Test.YtfoopmojjjpapaaGreatX11
set_option linter.all false
set_option maxHeartbeats 0
set_option maxRecDepth 20000
open Nat renaming zero_le→aT,reduceBEq→qV
open List renaming take_zero→nU,take_succ_eq_append_getElem→NU,getD_eq_getElem?_getD→aB,getElem?_eq_getElem→bT,take_of_length_le→c8
open And renaming intro→cJ
open Option renaming getD_none→NJ,isNone_none→NV,getD_some→pP
open Go Go.Am Go.Proofs
open Go Go.Am Go.Proofs Go.ChangeShapes Go.WideShapes Go.ChangeAt Go.RowKit
namespace T
def aA(l:List Bool):List AV:=[.tree 1 (bm l)]
instance:Row aA 1:=⟨λ_=>rfl,λl v hv=>by
 simp only[aA,List.mem_singleton]at hv;subst hv;exact .inr ⟨_,_,rfl⟩⟩
def F4:F5 Tryz.prog 211 (.map none):=⟨_,_,rfl,rfl,λw=>NW⟩
def adX:F5 Tryz.prog 212 (.int .i64 0):=⟨_,_,rfl,rfl,λw=>NW⟩
def adY:F6 Tryz.prog 211:=⟨_,_,rfl,rfl⟩
def QG:F6 Tryz.prog 212:=⟨_,_,rfl,rfl⟩
def adZ:sN Tryz.prog 211:=⟨_,_,rfl⟩
def F7:sN Tryz.prog 212:=⟨_,_,rfl⟩
def ad0(c:Ct)(left:List (List Bool))(n:Nat)(alT:left.length<=n)(hc:∀ x∈c.aY,(0<=x.cls/\x.cls<left.length)/\1<=x.wt/\x.wt<=1000)(hl:left.length<=1000)(bN:∀ r∈left,r.length<=1000)(fh:c.aY.length<9223372036854775808)(hm:0<=c.most)(hp:bM c.bX):
  Holds Tryz.prog 117 [.agg (db c),.tree 1 (rowsOf aA left)] [] (NX (iL left c)) []:=by
 refine Holds.aK 80 0 [.tmp 4] Tryz.func117 ?_;refine ad1 ?_;repeat'(first|(((refine mr ?_);intro K hK) ;simp(disch:=omega)only[Ac,↓Pc,simprocAttr,Mc])|(refine hK _ _ ?_;clear hK K))
 refine QH λb0 pk=>?_;repeat'(first|(((refine mr ?_);intro K hK) ;simp(disch:=omega)only[Ac,↓Pc,simprocAttr,Mc])|(with_reducible refine gO ?_;simp(disch:=omega)only[Ac,↓Pc,simprocAttr,Mc])|(refine hK _ _ ?_;clear hK K)|(refine pw ?_;intro Qb dC eI fi)|(refine nH ?_;intro Q hn he))
 refine F8 (λk:Nat=>(⟨an [(1,.tree 1 (rowsOf aA left)),(2,.ptr 0 0 0),(5,.lit (.map (some b0))),(17,.tree 3 (rowsOf qo c.aY)),(18,NX c.aY.length),(19,NX k)],[.var (db c)]⟩:St))
  (λk m=>k<=c.aY.length/\∃ A,GI left.length (c.aY.take k) A b0 m) (λk=>c.aY.length-k) 0 ⟨aT _,[],by rw[nU];exact GI.nil (rj _ _ _)⟩ (by(refine kP.an _ _ rfl ?_;simp only[Tc,↓reduceIte,Nat.reduceEqDiff,qV,Nat.reduceAdd];try trivial)) ?_
 rintro k m0⟨hk,A,hA⟩Ql ak ar;by_cases ba:k<c.aY.length
 ·have hx:=hc _ (aG (d:=default) ba);have iA:c.aY.take (k+1)=c.aY.take k++[c.aY.getD k default]:=by
   rw[NU ba,aB,bT ba];rfl
  generalize cW:c.aY.getD k default=x at *;repeat'(first|(((refine mr ?_);intro K hK) ;simp(disch:=omega)only[Ac,↓Pc,simprocAttr,cW,Mc])|(refine hK _ _ ?_;clear hK K)|(refine mc (λht=>?_) (λht=>?_)<;>(try simp only[gN,simprocAttr]at ht))|refine oA rfl ?_|(refine pw ?_;intro Qb dC eI fi)|(refine nH ?_;intro Q hn he)|((first|refine hn _ _ ?_|refine he _ _ _ rfl ?_);clear hn he;try clear Q)|with_reducible refine cJ ?_ ?_|omega)
  have fin:∀ A1 m1,GI left.length (c.aY.take k) A1 b0 m1->(∃ e∈A1,e.1=x.cls)->∃ e∈A1,e.1=x.cls/\mW x.cls (gE A1)=some (.map (some e.2.1)):=λA1 m1 h1 h2=>by
   rcases J2 x.cls A1 with⟨_,g⟩|g
   ·obtain⟨e,he,hh⟩:=h2;exact absurd hh (g e he)
   ·exact g
  rcases J2 x.cls A with⟨g1,g2⟩|⟨e0,g1,g2,g3⟩
  ·refine C2 (by simp only[Kc,simprocAttr]<;>exact rfl) (by simp only[Kc,simprocAttr]<;>exact rfl) F4 hA.top ?_;rw[g1];repeat'(first|(((refine qt ?_);intro K hK) ;simp(disch:=omega)only[Ac,↓Pc,simprocAttr,F7,NJ,NV,Mc])|(with_reducible refine gO ?_;simp(disch:=omega)only[Ac,↓Pc,simprocAttr,F7,NJ,NV,Mc])|(refine hK _ _ ?_;clear hK K)|(refine mc (λht=>?_) (λht=>?_)<;>(try simp only[gN,simprocAttr]at ht)))
   refine QH λb hb=>?_;(with_reducible refine gO ?_;simp(disch:=omega)only[Ac,↓Pc,simprocAttr,Mc])
   refine J3 (by simp only[Kc,simprocAttr]<;>exact rfl) (by simp only[Kc,simprocAttr]<;>exact rfl) (by simp only[Kc,simprocAttr]<;>exact rfl) adY (by rw[px _ _ (λe=>by rw[<- e,hA.top]at hb;cases hb)];exact hA.top) ?_;have rm:=hA.new hx.1 g2 hb;obtain⟨e1,k1,k2,k3⟩:=fin _ _ rm ⟨(x.cls,b,[]),Iw,rfl⟩;repeat'(first|(((refine qt ?_);intro K hK) ;simp(disch:=omega)only[Ac,↓Pc,simprocAttr,cW,Mc])|(refine hK _ _ ?_;clear hK K)|((refine hn _ _ ?_);clear hn he;try clear Q))
   refine C2 (by simp only[Kc,simprocAttr]<;>exact rfl) (by simp only[Kc,simprocAttr]<;>exact rfl) F4 rm.top ?_;rw[k3];(with_reducible refine gO ?_;simp(disch:=omega)only[Ac,↓Pc,simprocAttr,cW,pP,Mc])
   refine J3 (by simp only[Kc,simprocAttr]<;>exact rfl) (by simp only[Kc,simprocAttr]<;>exact rfl) (by simp only[Kc,simprocAttr]<;>exact rfl) QG (rm.sub e1 k1) ?_;repeat'(first|(((refine qt ?_);intro K hK) ;simp(disch:=omega)only[Ac,↓Pc,simprocAttr,Mc])|(refine hK _ _ ?_;clear hK K)|((refine hn _ _ ?_);clear hn he;try clear Q)|((refine dC _ _ ?_);clear dC eI fi;try clear Qb)|with_reducible refine cJ ?_ ?_|omega)
   exact ak _ _ (k+1) ⟨Iv,_,by rw[iA];exact rm.put k1 k2⟩ Iv (by(refine kP.se [0] false (by simp only[Oc,simprocAttr]) ?_;simp only[Hr,↓reduceIte,Nat.reduceEqDiff,qV,Nat.reduceAdd];try(and_intros<;>first|exact .pure rfl|exact .eq rfl|exact .fz rfl (by simp only[Bc,Rc]))))
  ·refine C2 (by simp only[Kc,simprocAttr]<;>exact rfl) (by simp only[Kc,simprocAttr]<;>exact rfl) F4 hA.top ?_;rw[g3];repeat'(first|(((refine qt ?_);intro K hK) ;simp(disch:=omega)only[Ac,↓Pc,simprocAttr,F7,pP,Option.isNone_some,Mc])|(with_reducible refine gO ?_;simp(disch:=omega)only[Ac,↓Pc,simprocAttr,F7,pP,Option.isNone_some,Mc])|(refine hK _ _ ?_;clear hK K)|(refine mc (λht=>?_) (λht=>?_)<;>(try simp only[gN,simprocAttr]at ht))|refine oA rfl ?_|((refine hn _ _ ?_);clear hn he;try clear Q))
   refine C2 (by simp only[Kc,simprocAttr]<;>exact rfl) (by simp only[Kc,simprocAttr]<;>exact rfl) F4 hA.top ?_;rw[g3];(with_reducible refine gO ?_;simp(disch:=omega)only[Ac,↓Pc,simprocAttr,cW,pP,Mc])
   refine J3 (by simp only[Kc,simprocAttr]<;>exact rfl) (by simp only[Kc,simprocAttr]<;>exact rfl) (by simp only[Kc,simprocAttr]<;>exact rfl) QG (hA.sub e0 g1) ?_;repeat'(first|(((refine qt ?_);intro K hK) ;simp(disch:=omega)only[Ac,↓Pc,simprocAttr,Mc])|(refine hK _ _ ?_;clear hK K)|((refine hn _ _ ?_);clear hn he;try clear Q)|((refine dC _ _ ?_);clear dC eI fi;try clear Qb)|with_reducible refine cJ ?_ ?_|omega)
   exact ak _ _ (k+1) ⟨Iv,_,by rw[iA];exact hA.put g1 g2⟩ Iv (by(refine kP.se [0] false (by simp only[Oc,simprocAttr]) ?_;simp only[Hr,↓reduceIte,Nat.reduceEqDiff,qV,Nat.reduceAdd];try(and_intros<;>first|exact .pure rfl|exact .eq rfl|exact .fz rfl (by simp only[Bc,Rc]))))
 ·rw[c8 Iv]at hA;repeat'(first|(((refine mr ?_);intro K hK) ;simp(disch:=omega)only[Ac,↓Pc,simprocAttr,Mc])|(refine hK _ _ ?_;clear hK K)|(refine mc (λht=>?_) (λht=>?_)<;>(try simp only[gN,simprocAttr]at ht))|refine oA rfl ?_|(refine pw ?_;intro Qb dC eI fi)|(refine nH ?_;intro Q hn he)|((first|refine hn _ _ ?_|refine he _ _ _ rfl ?_);clear hn he;try clear Q)|with_reducible refine cJ ?_ ?_|omega)
  refine ar _ _ _ rfl ?_;clear ak ar Ql;repeat(first|((refine hn _ _ ?_);clear hn he;try clear Q)|((refine eI _ _ ?_);clear dC eI fi;try clear Qb))
  repeat'(first|(((refine mr ?_);intro K hK) ;simp(disch:=omega)only[Ac,↓Pc,simprocAttr,Mc])|(refine hK _ _ ?_;clear hK K)|(refine nH ?_;intro Q hn he))
  have hcA:=hA.qu;have C3:=hA.sum;have yc:∀ x∈c.aY,1<=x.wt/\x.wt<=1000:=λx hx=>(hc x hx).2;have oo:=C4 yc left;generalize hf:(λj:Nat=>lX c.aY (A.getD j (0,0,[])).1 (left.getD (A.getD j (0,0,[])).1.toNat []))=f;have hf1:∀ j,lX c.aY (A.getD j (0,0,[])).1 (left.getD (A.getD j (0,0,[])).1.toNat [])=f j:=λj=>by rw[<- hf]
  have ee:∀ j,0<=f j/\f j<=1000:=λj=>by rw[<- hf1];exact QI yc _ _
  have hAl:A.length<=left.length:=hA.len;refine ad3 (by simp only[Kc,simprocAttr]<;>exact rfl) adZ hA.top λr hr=>?_;repeat'(first|(refine hK _ _ ?_;clear hK K)|(refine pw ?_;intro Qb dC eI fi))
  refine F8 (λseen:List Nat=>(⟨an [(1,.tree 1 (rowsOf aA left)),(2,.ptr 0 0 0),(8,NX (vu f seen A.length)),(42,.lit (.pointer (some ⟨r,0,none⟩)))],[.var (db c)]⟩:St))
   (λseen m=>GI left.length c.aY A b0 m/\m r=some (.iter b0 A.length seen)) (λseen=>C5 seen A.length) [] ⟨hA.other _ (λl=>by rw[hr];simp),by rw[rj,F9]⟩ (by(refine kP.an _ _ rfl ?_;simp only[Tc,↓reduceIte,Nat.reduceEqDiff,qV,Nat.reduceAdd,ad4];try trivial)) ?_
  rintro seen m1⟨rm,j5⟩Ql ak ar;(((refine mr ?_);intro K hK) ;simp(disch:=omega)only[Ac,↓Pc,simprocAttr,Mc])
  refine ad5 (b:=b0) (seen:=seen) (ents:=iE (gE A)) (by simp only[Kc,simprocAttr]<;>exact rfl) (by rw[F9];exact j5) rm.top (λgj=>?_) (λj p hp hj=>?_)
  ·rw[F9]at gj;rw[ad6 gj,<- hf,QJ (λc'=>lX c.aY c' (left.getD c'.toNat [])),C3];repeat'(first|(with_reducible refine gO ?_;simp(disch:=omega)only[Ac,↓Pc,simprocAttr,Mc])|(refine hK _ _ ?_;clear hK K)|(refine mc (λht=>?_) (λht=>?_)<;>(try simp only[gN,simprocAttr]at ht))|refine oA rfl ?_|(refine nH ?_;intro Q hn he)|((refine he _ _ _ rfl ?_);clear hn he;try clear Q))
   refine ar _ _ _ rfl ?_;clear ak ar Ql;repeat(first|((refine hn _ _ ?_);clear hn he;try clear Q)|((refine eI _ _ ?_);clear dC eI fi;try clear Qb))
   repeat'(first|(((refine mr ?_);intro K hK) ;simp(disch:=omega)only[Ac,↓Pc,simprocAttr,Mc])|(refine bR (ad7 c (jO c.aY 0 left 0) hm Iv oo.1 hp) rfl rfl ?_)|(refine hK _ _ ?_;clear hK K)|refine oA rfl ?_)
   refine Xe ?_;first|refine aS rfl ?_|refine Xl ?_ ?_
   rfl
  ·rw[QK,QL]at hp;cases he:A[j]? with
   |none=>rw[he]at hp;simp at hp
   |some e =>
    rw[he]at hp;simp only[Option.map_some,Option.some.injEq]at hp;subst hp;have gA:=(List.getElem?_eq_some_iff.1 he).1;have Ga:A.getD j (0,0,[])=e:=by rw[aB,he];rfl
    have Gb:e∈A:=List.mem_of_getElem? he;obtain⟨mR,lj⟩:=hcA e Gb;have QM:=hf1 j;rw[Ga]at QM;have hval:=rm.val e Gb;have ad8:=rm.sub e Gb;have cQ:=bN _ (aG (l:=left) (i:=e.1.toNat) (d:=[]) Iv);have QN:=ad9 (f:=f) (B:=1000) (seen:=seen) (n:=A.length) Iv λi _=>ee i;have dU:=aea (f:=f) gA hj;have a6:=QO gA hj;generalize Bn:left.getD e.1.toNat []=row at *;have QP:left.getD e.1.toNat default=row:=Bn;repeat'(first|(((refine mr ?_);intro K hK) ;simp(disch:=omega)only[Ac,↓Pc,simprocAttr,Mc])|(with_reducible refine gO ?_;simp(disch:=omega)only[Ac,↓Pc,simprocAttr,Mc])|(refine hK _ _ ?_;clear hK K)|(refine mc (λht=>?_) (λht=>?_)<;>(try simp only[gN,simprocAttr]at ht))|refine oA rfl ?_|(refine pw ?_;intro Qb dC eI fi)|(refine nH ?_;intro Q hn he)|((refine hn _ _ ?_);clear hn he;try clear Q))
    refine aeb (seen:=seen) (j:=j) (b:=b0) (ents:=iE (gE A)) (q:=(.int .i64 e.1,.map (some e.2.1))) (by simp only[Kc,simprocAttr]<;>exact rfl) (rj _ _ _) (by rw[px _ _ (λe2=>by rw[<- e2,rm.top]at j5;cases j5)];exact rm.top) (by rw[QK,QL,he];rfl) ?_;repeat'(first|(((refine mr ?_);intro K hK) ;simp(disch:=omega)only[Ac,↓Pc,simprocAttr,QP,aA,Mc])|(with_reducible refine gO ?_;simp(disch:=omega)only[Ac,↓Pc,simprocAttr,QP,aA,Mc])|(refine hK _ _ ?_;clear hK K)|(refine pw ?_;intro Qb dC eI fi)|(refine nH ?_;intro Q hn he)|with_reducible refine cJ ?_ ?_|omega)
    generalize uk:gP m1 r (.iter b0 (iE (gE A)).length (seen++[j]))=m2;have jM:m2 r=some (.iter b0 A.length (seen++[j])):=by rw[<- uk,rj,F9]
    have yd:GI left.length c.aY A b0 m2:=by rw[<- uk];exact rm.other _ λl=>by rw[j5];simp
    have aec:=yd.sub e Gb;clear ad8;refine F8 (λo:Nat=>(⟨an [(1,.tree 1 (rowsOf aA left)),(2,.ptr 0 0 0),(8,NX (vu f seen A.length)),(42,.lit (.pointer (some ⟨r,0,none⟩))),(10,.lit (.map (some e.2.1))),(11,NX (dG c.aY e.1 0 (row.take o) (-1))),(51,.tree 1 (bm row)),(52,NX row.length),(53,NX o)],[.var (db c)]⟩:St))
     (λo m=>o<=row.length/\m=m2) (λo=>row.length-o) 0 ⟨aT _,rfl⟩ (by(refine kP.an _ _ rfl ?_;simp only[Tc,↓reduceIte,Nat.reduceEqDiff,qV,Nat.reduceAdd,nU,dG];try trivial)) ?_
    rintro o m3⟨ho,rfl⟩c7 br bx;have hb:=Gc yc e.1 (row.take o) 0 (-1) Iv;by_cases cD:o<row.length
    ·have iA:dG c.aY e.1 0 (row.take (o+1)) (-1)=if row.getD o false=true/\(dG c.aY e.1 0 (row.take o) (-1)<0\/fH c.aY e.1 o 0<dG c.aY e.1 0 (row.take o) (-1)) then fH c.aY e.1 o 0 else dG c.aY e.1 0 (row.take o) (-1):=by
      rw[NU cD,J4,aB,bT cD,List.length_take,Nat.min_eq_left Iv,Nat.zero_add];rfl
     have hw:=ye yc e.1 o 0 Iv;have hv:=hval o;generalize dG c.aY e.1 0 (row.take o) (-1)=b at *;generalize fH c.aY e.1 o 0=w at *;generalize zE:row.getD o false=is at *;repeat'(first|(((refine mr ?_);intro K hK) ;simp(disch:=omega)only[Ac,↓Pc,simprocAttr,zE,Mc])|(refine hK _ _ ?_;clear hK K)|(refine mc (λht=>?_) (λht=>?_)<;>(try simp only[gN,simprocAttr]at ht))|refine oA rfl ?_|(refine pw ?_;intro Qb dC eI fi)|(refine nH ?_;intro Q hn he)|((first|refine hn _ _ ?_|refine he _ _ _ rfl ?_);clear hn he;try clear Q)|with_reducible refine cJ ?_ ?_|omega)
     refine C2 (by simp only[Kc,simprocAttr]<;>exact rfl) (by simp only[Kc,simprocAttr]<;>exact rfl) adX aec ?_;rw[QR,hv];repeat'(first|(((first|refine mr ?_|refine qt ?_);intro K hK) ;simp(disch:=omega)only[Ac,↓Pc,simprocAttr,zE,Mc])|(with_reducible refine gO ?_;simp(disch:=omega)only[Ac,↓Pc,simprocAttr,zE,Mc])|(refine hK _ _ ?_;clear hK K)|(with_reducible refine gS (λaV=>?_) (λaV=>?_)<;>(have hb:=aV;(try simp only[gN,simprocAttr]at hb);simp(disch:=omega)only[Ac,↓Pc,simprocAttr,zE,Mc,aV];clear aV))|(refine mc (λht=>?_) (λht=>?_)<;>(try simp only[gN,simprocAttr]at ht))|refine oA rfl ?_|((refine hn _ _ ?_);clear hn he;try clear Q)|((refine dC _ _ ?_);clear dC eI fi;try clear Qb)|with_reducible refine cJ ?_ ?_|omega)
     all_goals
      refine br _ _ (o+1) ⟨Iv,rfl⟩ Iv ?_;simp only[iA];first
       |rw[if_pos ⟨by assumption,Iv⟩]
       |rw[if_neg (by rintro⟨h1,h2⟩;first|omega|(simp only[h1]at *;contradiction)|simp_all)]
      (refine kP.an _ _ rfl ?_;simp only[Tc,↓reduceIte,Nat.reduceEqDiff,qV,Nat.reduceAdd];try trivial)
    ·rw[c8 Iv]at hb;have jt:max (dG c.aY e.1 0 row (-1)) 0=f j:=QM;repeat'(first|(((refine mr ?_);intro K hK) ;simp(disch:=omega)only[Ac,↓Pc,simprocAttr,c8 (show row.length<=o by omega),Mc])|(refine hK _ _ ?_;clear hK K)|(refine mc (λht=>?_) (λht=>?_)<;>(try simp only[gN,simprocAttr]at ht))|refine oA rfl ?_|(refine pw ?_;intro Qb dC eI fi)|(refine nH ?_;intro Q hn he)|((first|refine hn _ _ ?_|refine he _ _ _ rfl ?_);clear hn he;try clear Q)|with_reducible refine cJ ?_ ?_|omega)
     refine bx _ _ _ rfl ?_;clear br bx c7;repeat(first|((refine hn _ _ ?_);clear hn he;try clear Q)|((refine eI _ _ ?_);clear dC eI fi;try clear Qb))
     repeat'(first|(((refine qt ?_);intro K hK) ;simp(disch:=omega)only[Ac,↓Pc,simprocAttr,Mc])|(refine hK _ _ ?_;clear hK K)|((refine dC _ _ ?_);clear dC eI fi;try clear Qb)|with_reducible refine cJ ?_ ?_|omega)
     exact ak _ _ (seen++[j]) ⟨yd,jM⟩ a6 (by simp only[dU,<- jt];(refine kP.an _ _ rfl ?_;simp only[Tc,↓reduceIte,Nat.reduceEqDiff,qV,Nat.reduceAdd];try trivial))
variable {H:Type} {enc:TypeId×Value->H} {W:World} {sp:Nat->Bool} {base:Nat}
def alV{fuel:Nat}{cs:List Value}{x:DataW H×List MemPlace}(h:DataW.trod enc Tryz.prog W base sp true fuel 23 cs=some x):
  ∃ (a:List (List Bool)) (v:Value),cs=[v]/\(∀ r∈a,r.length<9223372036854775808)/\a.length<=maxLen/\gx W (qX W) (.tree 1 (rowsOf aA a)) v:=by
 refine IF aA _ (e:=49) (by kernel_rfl) 1 (by kernel_rfl) NF (λfuel cs x h hl=>?_) h;obtain⟨xs,v,rfl,h1,h2,h3⟩:=ab9 (e:=4) (by kernel_rfl) (by kernel_rfl) (by kernel_rfl) h;refine⟨xs,by unfold maxLen at h2;omega,rfl,λc y hy=>?_⟩
 match c,hy with
 |0,hy=>simp[aA]at hy;subst hy;exact h3
end T

