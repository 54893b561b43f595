import Derived.Test.YtfoopmojjjpapaaGreatX23
import Derived.Test.YtfoopmojjjpapaaGreatX11
set_option linter.all false
set_option maxHeartbeats 0
set_option maxRecDepth 20000
open Nat renaming zero_le→aT,reduceBEq→qW
open List renaming take_zero→nU,take_succ_eq_append_getElem→NX,getD_eq_getElem?_getD→aB,getElem?_eq_getElem→bT,take_of_length_le→c8
open And renaming intro→cK
open Option renaming getD_none→NM,isNone_none→NY,getD_some→pQ
open Go Go.Am Go.Proofs
open Go Go.Am Go.Proofs Go.ChangeShapes Go.WideShapes Go.ChangeAt Go.RowKit
namespace T
def aA(l:List Bool):List AV:=[.tree 1 (bm l)]
instance:Row aA 1:=⟨λ_=>rfl,λl v hv=>by
 simp only[aA,List.mem_singleton]at hv;subst hv;exact .inr ⟨_,_,rfl⟩⟩
def F7:F8 Tryz.prog 211 (.map none):=⟨_,_,rfl,rfl,λw=>NZ⟩
def ad1:F8 Tryz.prog 212 (.int .i64 0):=⟨_,_,rfl,rfl,λw=>NZ⟩
def ad2:F9 Tryz.prog 211:=⟨_,_,rfl,rfl⟩
def QJ:F9 Tryz.prog 212:=⟨_,_,rfl,rfl⟩
def ad3:sP Tryz.prog 211:=⟨_,_,rfl⟩
def Ga:sP Tryz.prog 212:=⟨_,_,rfl⟩
def ad4(c:Ct)(left:List (List Bool))(n:Nat)(alV:left.length<=n)(hc:∀ x∈c.aY,(0<=x.cls/\x.cls<left.length)/\1<=x.wt/\x.wt<=1000)(hl:left.length<=1000)(bN:∀ r∈left,r.length<=1000)(fh:c.aY.length<9223372036854775808)(hm:0<=c.most)(hp:bM c.bX):
  Holds Tryz.prog 117 [.agg (db c),.tree 1 (rowsOf aA left)] [] (N0 (iM left c)) []:=by
 refine Holds.aK 80 0 [.tmp 4] Tryz.func117 ?_;refine ad5 ?_;repeat'(first|(((refine mr ?_);intro K hK) ;simp(disch:=omega)only[Ac,↓Pc,simprocAttr,Mc])|(refine hK _ _ ?_;clear hK K))
 refine QK λb0 pk=>?_;repeat'(first|(((refine mr ?_);intro K hK) ;simp(disch:=omega)only[Ac,↓Pc,simprocAttr,Mc])|(with_reducible refine gO ?_;simp(disch:=omega)only[Ac,↓Pc,simprocAttr,Mc])|(refine hK _ _ ?_;clear hK K)|(refine pw ?_;intro Qb dC eI fi)|(refine nH ?_;intro Q hn he))
 refine Gb (λk:Nat=>(⟨an [(1,.tree 1 (rowsOf aA left)),(2,.ptr 0 0 0),(5,.lit (.map (some b0))),(17,.tree 3 (rowsOf qq c.aY)),(18,N0 c.aY.length),(19,N0 k)],[.var (db c)]⟩:St))
  (λk m=>k<=c.aY.length/\∃ A,GI left.length (c.aY.take k) A b0 m) (λk=>c.aY.length-k) 0 ⟨aT _,[],by rw[nU];exact GI.nil (rm _ _ _)⟩ (by(refine kP.an _ _ rfl ?_;simp only[Tc,↓reduceIte,Nat.reduceEqDiff,qW,Nat.reduceAdd];try trivial)) ?_
 rintro k m0⟨hk,A,hA⟩Ql ak ar;by_cases ba:k<c.aY.length
 ·have hx:=hc _ (aG (d:=default) ba);have iA:c.aY.take (k+1)=c.aY.take k++[c.aY.getD k default]:=by
   rw[NX ba,aB,bT ba];rfl
  generalize cW:c.aY.getD k default=x at *;repeat'(first|(((refine mr ?_);intro K hK) ;simp(disch:=omega)only[Ac,↓Pc,simprocAttr,cW,Mc])|(refine hK _ _ ?_;clear hK K)|(refine mc (λht=>?_) (λht=>?_)<;>(try simp only[gN,simprocAttr]at ht))|refine oA rfl ?_|(refine pw ?_;intro Qb dC eI fi)|(refine nH ?_;intro Q hn he)|((first|refine hn _ _ ?_|refine he _ _ _ rfl ?_);clear hn he;try clear Q)|with_reducible refine cK ?_ ?_|omega)
  have fin:∀ A1 m1,GI left.length (c.aY.take k) A1 b0 m1->(∃ e∈A1,e.1=x.cls)->∃ e∈A1,e.1=x.cls/\mW x.cls (gE A1)=some (.map (some e.2.1)):=λA1 m1 h1 h2=>by
   rcases J4 x.cls A1 with⟨_,g⟩|g
   ·obtain⟨e,he,hh⟩:=h2;exact absurd hh (g e he)
   ·exact g
  rcases J4 x.cls A with⟨g1,g2⟩|⟨e0,g1,g2,g3⟩
  ·refine C4 (by simp only[Kc,simprocAttr]<;>exact rfl) (by simp only[Kc,simprocAttr]<;>exact rfl) F7 hA.top ?_;rw[g1];repeat'(first|(((refine qu ?_);intro K hK) ;simp(disch:=omega)only[Ac,↓Pc,simprocAttr,Ga,NM,NY,Mc])|(with_reducible refine gO ?_;simp(disch:=omega)only[Ac,↓Pc,simprocAttr,Ga,NM,NY,Mc])|(refine hK _ _ ?_;clear hK K)|(refine mc (λht=>?_) (λht=>?_)<;>(try simp only[gN,simprocAttr]at ht)))
   refine QK λb hb=>?_;(with_reducible refine gO ?_;simp(disch:=omega)only[Ac,↓Pc,simprocAttr,Mc])
   refine J5 (by simp only[Kc,simprocAttr]<;>exact rfl) (by simp only[Kc,simprocAttr]<;>exact rfl) (by simp only[Kc,simprocAttr]<;>exact rfl) ad2 (by rw[px _ _ (λe=>by rw[<- e,hA.top]at hb;cases hb)];exact hA.top) ?_;have rn:=hA.new hx.1 g2 hb;obtain⟨e1,k1,k2,k3⟩:=fin _ _ rn ⟨(x.cls,b,[]),Iy,rfl⟩;repeat'(first|(((refine qu ?_);intro K hK) ;simp(disch:=omega)only[Ac,↓Pc,simprocAttr,cW,Mc])|(refine hK _ _ ?_;clear hK K)|((refine hn _ _ ?_);clear hn he;try clear Q))
   refine C4 (by simp only[Kc,simprocAttr]<;>exact rfl) (by simp only[Kc,simprocAttr]<;>exact rfl) F7 rn.top ?_;rw[k3];(with_reducible refine gO ?_;simp(disch:=omega)only[Ac,↓Pc,simprocAttr,cW,pQ,Mc])
   refine J5 (by simp only[Kc,simprocAttr]<;>exact rfl) (by simp only[Kc,simprocAttr]<;>exact rfl) (by simp only[Kc,simprocAttr]<;>exact rfl) QJ (rn.sub e1 k1) ?_;repeat'(first|(((refine qu ?_);intro K hK) ;simp(disch:=omega)only[Ac,↓Pc,simprocAttr,Mc])|(refine hK _ _ ?_;clear hK K)|((refine hn _ _ ?_);clear hn he;try clear Q)|((refine dC _ _ ?_);clear dC eI fi;try clear Qb)|with_reducible refine cK ?_ ?_|omega)
   exact ak _ _ (k+1) ⟨Ix,_,by rw[iA];exact rn.put k1 k2⟩ Ix (by(refine kP.se [0] false (by simp only[Oc,simprocAttr]) ?_;simp only[Hr,↓reduceIte,Nat.reduceEqDiff,qW,Nat.reduceAdd];try(and_intros<;>first|exact .pure rfl|exact .eq rfl|exact .fz rfl (by simp only[Bc,Rc]))))
  ·refine C4 (by simp only[Kc,simprocAttr]<;>exact rfl) (by simp only[Kc,simprocAttr]<;>exact rfl) F7 hA.top ?_;rw[g3];repeat'(first|(((refine qu ?_);intro K hK) ;simp(disch:=omega)only[Ac,↓Pc,simprocAttr,Ga,pQ,Option.isNone_some,Mc])|(with_reducible refine gO ?_;simp(disch:=omega)only[Ac,↓Pc,simprocAttr,Ga,pQ,Option.isNone_some,Mc])|(refine hK _ _ ?_;clear hK K)|(refine mc (λht=>?_) (λht=>?_)<;>(try simp only[gN,simprocAttr]at ht))|refine oA rfl ?_|((refine hn _ _ ?_);clear hn he;try clear Q))
   refine C4 (by simp only[Kc,simprocAttr]<;>exact rfl) (by simp only[Kc,simprocAttr]<;>exact rfl) F7 hA.top ?_;rw[g3];(with_reducible refine gO ?_;simp(disch:=omega)only[Ac,↓Pc,simprocAttr,cW,pQ,Mc])
   refine J5 (by simp only[Kc,simprocAttr]<;>exact rfl) (by simp only[Kc,simprocAttr]<;>exact rfl) (by simp only[Kc,simprocAttr]<;>exact rfl) QJ (hA.sub e0 g1) ?_;repeat'(first|(((refine qu ?_);intro K hK) ;simp(disch:=omega)only[Ac,↓Pc,simprocAttr,Mc])|(refine hK _ _ ?_;clear hK K)|((refine hn _ _ ?_);clear hn he;try clear Q)|((refine dC _ _ ?_);clear dC eI fi;try clear Qb)|with_reducible refine cK ?_ ?_|omega)
   exact ak _ _ (k+1) ⟨Ix,_,by rw[iA];exact hA.put g1 g2⟩ Ix (by(refine kP.se [0] false (by simp only[Oc,simprocAttr]) ?_;simp only[Hr,↓reduceIte,Nat.reduceEqDiff,qW,Nat.reduceAdd];try(and_intros<;>first|exact .pure rfl|exact .eq rfl|exact .fz rfl (by simp only[Bc,Rc]))))
 ·rw[c8 Ix]at hA;repeat'(first|(((refine mr ?_);intro K hK) ;simp(disch:=omega)only[Ac,↓Pc,simprocAttr,Mc])|(refine hK _ _ ?_;clear hK K)|(refine mc (λht=>?_) (λht=>?_)<;>(try simp only[gN,simprocAttr]at ht))|refine oA rfl ?_|(refine pw ?_;intro Qb dC eI fi)|(refine nH ?_;intro Q hn he)|((first|refine hn _ _ ?_|refine he _ _ _ rfl ?_);clear hn he;try clear Q)|with_reducible refine cK ?_ ?_|omega)
  refine ar _ _ _ rfl ?_;clear ak ar Ql;repeat(first|((refine hn _ _ ?_);clear hn he;try clear Q)|((refine eI _ _ ?_);clear dC eI fi;try clear Qb))
  repeat'(first|(((refine mr ?_);intro K hK) ;simp(disch:=omega)only[Ac,↓Pc,simprocAttr,Mc])|(refine hK _ _ ?_;clear hK K)|(refine nH ?_;intro Q hn he))
  have hcA:=hA.qv;have C5:=hA.sum;have ye:∀ x∈c.aY,1<=x.wt/\x.wt<=1000:=λx hx=>(hc x hx).2;have oo:=C6 ye left;generalize hf:(λj:Nat=>lX c.aY (A.getD j (0,0,[])).1 (left.getD (A.getD j (0,0,[])).1.toNat []))=f;have hf1:∀ j,lX c.aY (A.getD j (0,0,[])).1 (left.getD (A.getD j (0,0,[])).1.toNat [])=f j:=λj=>by rw[<- hf]
  have ee:∀ j,0<=f j/\f j<=1000:=λj=>by rw[<- hf1];exact QL ye _ _
  have hAl:A.length<=left.length:=hA.len;refine ad7 (by simp only[Kc,simprocAttr]<;>exact rfl) ad3 hA.top λr hr=>?_;repeat'(first|(refine hK _ _ ?_;clear hK K)|(refine pw ?_;intro Qb dC eI fi))
  refine Gb (λseen:List Nat=>(⟨an [(1,.tree 1 (rowsOf aA left)),(2,.ptr 0 0 0),(8,N0 (vv f seen A.length)),(42,.lit (.pointer (some ⟨r,0,none⟩)))],[.var (db c)]⟩:St))
   (λseen m=>GI left.length c.aY A b0 m/\m r=some (.iter b0 A.length seen)) (λseen=>C7 seen A.length) [] ⟨hA.other _ (λl=>by rw[hr];simp),by rw[rm,Gc]⟩ (by(refine kP.an _ _ rfl ?_;simp only[Tc,↓reduceIte,Nat.reduceEqDiff,qW,Nat.reduceAdd,ad8];try trivial)) ?_
  rintro seen m1⟨rn,j4⟩Ql ak ar;(((refine mr ?_);intro K hK) ;simp(disch:=omega)only[Ac,↓Pc,simprocAttr,Mc])
  refine ad9 (b:=b0) (seen:=seen) (ents:=iE (gE A)) (by simp only[Kc,simprocAttr]<;>exact rfl) (by rw[Gc];exact j4) rn.top (λgf=>?_) (λj p hp hj=>?_)
  ·rw[Gc]at gf;rw[aea gf,<- hf,QM (λc'=>lX c.aY c' (left.getD c'.toNat [])),C5];repeat'(first|(with_reducible refine gO ?_;simp(disch:=omega)only[Ac,↓Pc,simprocAttr,Mc])|(refine hK _ _ ?_;clear hK K)|(refine mc (λht=>?_) (λht=>?_)<;>(try simp only[gN,simprocAttr]at ht))|refine oA rfl ?_|(refine nH ?_;intro Q hn he)|((refine he _ _ _ rfl ?_);clear hn he;try clear Q))
   refine ar _ _ _ rfl ?_;clear ak ar Ql;repeat(first|((refine hn _ _ ?_);clear hn he;try clear Q)|((refine eI _ _ ?_);clear dC eI fi;try clear Qb))
   repeat'(first|(((refine mr ?_);intro K hK) ;simp(disch:=omega)only[Ac,↓Pc,simprocAttr,Mc])|(refine bR (aeb c (jN c.aY 0 left 0) hm Ix oo.1 hp) rfl rfl ?_)|(refine hK _ _ ?_;clear hK K)|refine oA rfl ?_)
   refine Xe ?_;first|refine aS rfl ?_|refine Xl ?_ ?_
   rfl
  ·rw[QN,QO]at hp;cases he:A[j]? with
   |none=>rw[he]at hp;simp at hp
   |some e =>
    rw[he]at hp;simp only[Option.map_some,Option.some.injEq]at hp;subst hp;have gA:=(List.getElem?_eq_some_iff.1 he).1;have Gd:A.getD j (0,0,[])=e:=by rw[aB,he];rfl
    have Ge:e∈A:=List.mem_of_getElem? he;obtain⟨mR,lj⟩:=hcA e Ge;have QP:=hf1 j;rw[Gd]at QP;have hval:=rn.val e Ge;have aec:=rn.sub e Ge;have cI:=bN _ (aG (l:=left) (i:=e.1.toNat) (d:=[]) Ix);have QR:=aed (f:=f) (B:=1000) (seen:=seen) (n:=A.length) Ix λi _=>ee i;have dU:=aee (f:=f) gA hj;have a6:=QS gA hj;generalize Br:left.getD e.1.toNat []=row at *;have QT:left.getD e.1.toNat default=row:=Br;repeat'(first|(((refine mr ?_);intro K hK) ;simp(disch:=omega)only[Ac,↓Pc,simprocAttr,Mc])|(with_reducible refine gO ?_;simp(disch:=omega)only[Ac,↓Pc,simprocAttr,Mc])|(refine hK _ _ ?_;clear hK K)|(refine mc (λht=>?_) (λht=>?_)<;>(try simp only[gN,simprocAttr]at ht))|refine oA rfl ?_|(refine pw ?_;intro Qb dC eI fi)|(refine nH ?_;intro Q hn he)|((refine hn _ _ ?_);clear hn he;try clear Q))
    refine aef (seen:=seen) (j:=j) (b:=b0) (ents:=iE (gE A)) (q:=(.int .i64 e.1,.map (some e.2.1))) (by simp only[Kc,simprocAttr]<;>exact rfl) (rm _ _ _) (by rw[px _ _ (λe2=>by rw[<- e2,rn.top]at j4;cases j4)];exact rn.top) (by rw[QN,QO,he];rfl) ?_;repeat'(first|(((refine mr ?_);intro K hK) ;simp(disch:=omega)only[Ac,↓Pc,simprocAttr,QT,aA,Mc])|(with_reducible refine gO ?_;simp(disch:=omega)only[Ac,↓Pc,simprocAttr,QT,aA,Mc])|(refine hK _ _ ?_;clear hK K)|(refine pw ?_;intro Qb dC eI fi)|(refine nH ?_;intro Q hn he)|with_reducible refine cK ?_ ?_|omega)
    generalize uk:gP m1 r (.iter b0 (iE (gE A)).length (seen++[j]))=m2;have jL:m2 r=some (.iter b0 A.length (seen++[j])):=by rw[<- uk,rm,Gc]
    have yf:GI left.length c.aY A b0 m2:=by rw[<- uk];exact rn.other _ λl=>by rw[j4];simp
    have aeg:=yf.sub e Ge;clear aec;refine Gb (λo:Nat=>(⟨an [(1,.tree 1 (rowsOf aA left)),(2,.ptr 0 0 0),(8,N0 (vv f seen A.length)),(42,.lit (.pointer (some ⟨r,0,none⟩))),(10,.lit (.map (some e.2.1))),(11,N0 (dG c.aY e.1 0 (row.take o) (-1))),(51,.tree 1 (bm row)),(52,N0 row.length),(53,N0 o)],[.var (db c)]⟩:St))
     (λo m=>o<=row.length/\m=m2) (λo=>row.length-o) 0 ⟨aT _,rfl⟩ (by(refine kP.an _ _ rfl ?_;simp only[Tc,↓reduceIte,Nat.reduceEqDiff,qW,Nat.reduceAdd,nU,dG];try trivial)) ?_
    rintro o m3⟨ho,rfl⟩c7 br bx;have hb:=Gf ye e.1 (row.take o) 0 (-1) Ix;by_cases cE:o<row.length
    ·have iA:dG c.aY e.1 0 (row.take (o+1)) (-1)=if row.getD o false=true/\(dG c.aY e.1 0 (row.take o) (-1)<0\/fH c.aY e.1 o 0<dG c.aY e.1 0 (row.take o) (-1)) then fH c.aY e.1 o 0 else dG c.aY e.1 0 (row.take o) (-1):=by
      rw[NX cE,J6,aB,bT cE,List.length_take,Nat.min_eq_left Ix,Nat.zero_add];rfl
     have hw:=yg ye e.1 o 0 Ix;have hv:=hval o;generalize dG c.aY e.1 0 (row.take o) (-1)=b at *;generalize fH c.aY e.1 o 0=w at *;generalize zG:row.getD o false=is at *;repeat'(first|(((refine mr ?_);intro K hK) ;simp(disch:=omega)only[Ac,↓Pc,simprocAttr,zG,Mc])|(refine hK _ _ ?_;clear hK K)|(refine mc (λht=>?_) (λht=>?_)<;>(try simp only[gN,simprocAttr]at ht))|refine oA rfl ?_|(refine pw ?_;intro Qb dC eI fi)|(refine nH ?_;intro Q hn he)|((first|refine hn _ _ ?_|refine he _ _ _ rfl ?_);clear hn he;try clear Q)|with_reducible refine cK ?_ ?_|omega)
     refine C4 (by simp only[Kc,simprocAttr]<;>exact rfl) (by simp only[Kc,simprocAttr]<;>exact rfl) ad1 aeg ?_;rw[QU,hv];repeat'(first|(((first|refine mr ?_|refine qu ?_);intro K hK) ;simp(disch:=omega)only[Ac,↓Pc,simprocAttr,zG,Mc])|(with_reducible refine gO ?_;simp(disch:=omega)only[Ac,↓Pc,simprocAttr,zG,Mc])|(refine hK _ _ ?_;clear hK K)|(with_reducible refine gS (λaV=>?_) (λaV=>?_)<;>(have hb:=aV;(try simp only[gN,simprocAttr]at hb);simp(disch:=omega)only[Ac,↓Pc,simprocAttr,zG,Mc,aV];clear aV))|(refine mc (λht=>?_) (λht=>?_)<;>(try simp only[gN,simprocAttr]at ht))|refine oA rfl ?_|((refine hn _ _ ?_);clear hn he;try clear Q)|((refine dC _ _ ?_);clear dC eI fi;try clear Qb)|with_reducible refine cK ?_ ?_|omega)
     all_goals
      refine br _ _ (o+1) ⟨Ix,rfl⟩ Ix ?_;simp only[iA];first
       |rw[if_pos ⟨by assumption,Ix⟩]
       |rw[if_neg (by rintro⟨h1,h2⟩;first|omega|(simp only[h1]at *;contradiction)|simp_all)]
      (refine kP.an _ _ rfl ?_;simp only[Tc,↓reduceIte,Nat.reduceEqDiff,qW,Nat.reduceAdd];try trivial)
    ·rw[c8 Ix]at hb;have jt:max (dG c.aY e.1 0 row (-1)) 0=f j:=QP;repeat'(first|(((refine mr ?_);intro K hK) ;simp(disch:=omega)only[Ac,↓Pc,simprocAttr,c8 (show row.length<=o by omega),Mc])|(refine hK _ _ ?_;clear hK K)|(refine mc (λht=>?_) (λht=>?_)<;>(try simp only[gN,simprocAttr]at ht))|refine oA rfl ?_|(refine pw ?_;intro Qb dC eI fi)|(refine nH ?_;intro Q hn he)|((first|refine hn _ _ ?_|refine he _ _ _ rfl ?_);clear hn he;try clear Q)|with_reducible refine cK ?_ ?_|omega)
     refine bx _ _ _ rfl ?_;clear br bx c7;repeat(first|((refine hn _ _ ?_);clear hn he;try clear Q)|((refine eI _ _ ?_);clear dC eI fi;try clear Qb))
     repeat'(first|(((refine qu ?_);intro K hK) ;simp(disch:=omega)only[Ac,↓Pc,simprocAttr,Mc])|(refine hK _ _ ?_;clear hK K)|((refine dC _ _ ?_);clear dC eI fi;try clear Qb)|with_reducible refine cK ?_ ?_|omega)
     exact ak _ _ (seen++[j]) ⟨yf,jL⟩ a6 (by simp only[dU,<- jt];(refine kP.an _ _ rfl ?_;simp only[Tc,↓reduceIte,Nat.reduceEqDiff,qW,Nat.reduceAdd];try trivial))
variable {H:Type} {enc:TypeId×Value->H} {W:World} {sp:Nat->Bool} {base:Nat}
def alX{fuel:Nat}{cs:List Value}{x:DataW H×List MemPlace}(h:DataW.trod enc Tryz.prog W base sp true fuel 23 cs=some x):
  ∃ (a:List (List Bool)) (v:Value),cs=[v]/\(∀ r∈a,r.length<9223372036854775808)/\a.length<=maxLen/\gx W (qY W) (.tree 1 (rowsOf aA a)) v:=by
 refine IH aA _ (e:=49) (by kernel_rfl) 1 (by kernel_rfl) NI (λfuel cs x h hl=>?_) h;obtain⟨xs,v,rfl,h1,h2,h3⟩:=acd (e:=4) (by kernel_rfl) (by kernel_rfl) (by kernel_rfl) h;refine⟨xs,by unfold maxLen at h2;omega,rfl,λc y hy=>?_⟩
 match c,hy with
 |0,hy=>simp[aA]at hy;subst hy;exact h3
end T

