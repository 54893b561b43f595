import Derived.Test.YtjadfapldkfbpaaGreatX17
set_option linter.all false
set_option maxHeartbeats 0
set_option maxRecDepth 20000
open List renaming mem_singleton→ec,take_zero→ky,take_succ_eq_append_getElem→Ky,getD_eq_getElem?_getD→aG,getElem?_eq_getElem→bT,take_of_length_le→ej,getElem?_eq_some_iff→aY,mem_append→cz,mem_map→cC,mem_iff_getElem→tq,getElem?_set_ne→bM,mem_cons→cu,map_cons→dK,cons_append→dP,nodup_cons→uH,map_nil→k7,getElem?_cons_succ→vQ,getD_cons_succ→gN,length→rq,getElem?_map→b6,getElem?_cons_zero→vP,getElem?_eq_none→ei,set_cons_succ→n6
open Nat renaming zero_le→aF,reduceBEq→nq,add_zero→iY
open And renaming intro→cI
open Option renaming getD_none→G8,isNone_none→DR,getD_some→k9,isNone_some→Hb,map_some→fE,some→dD
open Go Go.Am Go.Proofs
namespace T
def aT(l:List Bool):List AV:=[.tree 1 (aX l)]
instance:Row aT 1:=⟨λ_=>rfl,λl v hv=>by
 simp only[aT,ec]at hv;subst hv;exact .inr ⟨_,_,rfl⟩⟩
def IB:Iz Tryz.prog 227 (.map none):=⟨_,_,rfl,rfl,λw=>P5⟩
def agx:Iz Tryz.prog 228 (.int .i64 0):=⟨_,_,rfl,rfl,λw=>P5⟩
def agy:Iy Tryz.prog 227:=⟨_,_,rfl,rfl⟩
def X9:Iy Tryz.prog 228:=⟨_,_,rfl,rfl⟩
def agz:wC Tryz.prog 227:=⟨_,_,rfl⟩
def IC:wC Tryz.prog 228:=⟨_,_,rfl⟩
def agA(c:Ct)(left:List (List Bool))(n:Nat)(anR:left.length<=n)(hc:∀ x∈c.aJ,(0<=x.cls/\x.cls<left.length)/\1<=x.wt/\x.wt<=1000)(hl:left.length<=1000)(bj:∀ r∈left,r.length<=1000)(dI:c.aJ.length<9223372036854775808)(hm:0<=c.most)(hp:bZ c.b8):
  an Tryz.prog 150 [.agg (aV c),.tree 1 (rowsOf aT left)] [] (aaa (jZ left c)) []:=by
 refine an.aC 80 0 [.tmp 4] Tryz.func150 ?_;refine agj ?_;repeat'(first|(((refine mr ?_);intro K hK) ;simp(disch:=omega)only[Ac,↓Pc,simprocAttr,Mc])|(refine hK _ _ ?_;clear hK K))
 refine X8 λb0 nJ=>?_;repeat'(first|(((refine mr ?_);intro K hK) ;simp(disch:=omega)only[Ac,↓Pc,simprocAttr,Mc])|(with_reducible refine gO ?_;simp(disch:=omega)only[Ac,↓Pc,simprocAttr,Mc])|(refine hK _ _ ?_;clear hK K)|(refine zm ?_;intro Qb kP oC qJ)|(refine vn ?_;intro Q hn he))
 refine MJ (λk:Nat=>(⟨au [(1,.tree 1 (rowsOf aT left)),(2,.ptr 0 0 0),(5,.lit (.map (some b0))),(17,.tree 3 (rowsOf iH c.aJ)),(18,aaa c.aJ.length),(19,aaa k)],[.var (aV c)]⟩:St))
  (λk m=>k<=c.aJ.length/\∃ A,GI left.length (c.aJ.take k) A b0 m) (λk=>c.aJ.length-k) 0 ⟨aF _,[],by rw[ky];exact GI.nil (zl _ _ _)⟩ (by(refine nH.au _ _ rfl ?_;simp only[Tc,↓reduceIte,Nat.reduceEqDiff,nq,Nat.reduceAdd];try trivial)) ?_
 rintro k m0⟨hk,A,hA⟩Ql ak ar;by_cases aL:k<c.aJ.length
 ·have hx:=hc _ (aB (d:=default) aL);have jg:c.aJ.take (k+1)=c.aJ.take k++[c.aJ.getD k default]:=by
   rw[Ky aL,aG,bT aL];rfl
  generalize aS:c.aJ.getD k default=x at *;repeat'(first|(((refine mr ?_);intro K hK) ;simp(disch:=omega)only[Ac,↓Pc,simprocAttr,aS,Mc])|(refine hK _ _ ?_;clear hK K)|(refine mc (λht=>?_) (λht=>?_)<;>(try simp only[pJ,simprocAttr]at ht))|refine xY rfl ?_|(refine zm ?_;intro Qb kP oC qJ)|(refine vn ?_;intro Q hn he)|((first|refine hn _ _ ?_|refine he _ _ _ rfl ?_);clear hn he;try clear Q)|with_reducible refine cI ?_ ?_|omega)
  have fin:∀ A1 m1,GI left.length (c.aJ.take k) A1 b0 m1->(∃ e∈A1,e.1=x.cls)->∃ e∈A1,e.1=x.cls/\oE x.cls (gE A1)=some (.map (some e.2.1)):=λA1 m1 h1 h2=>by
   rcases MP x.cls A1 with⟨_,g⟩|g
   ·obtain⟨e,he,hh⟩:=h2;exact absurd hh (g e he)
   ·exact g
  rcases MP x.cls A with⟨g1,g2⟩|⟨e0,g1,g2,g3⟩
  ·refine E9 (by simp only[Kc,simprocAttr]<;>exact rfl) (by simp only[Kc,simprocAttr]<;>exact rfl) IB hA.top ?_;rw[g1];repeat'(first|(((refine AU ?_);intro K hK) ;simp(disch:=omega)only[Ac,↓Pc,simprocAttr,IC,G8,DR,Mc])|(with_reducible refine gO ?_;simp(disch:=omega)only[Ac,↓Pc,simprocAttr,IC,G8,DR,Mc])|(refine hK _ _ ?_;clear hK K)|(refine mc (λht=>?_) (λht=>?_)<;>(try simp only[pJ,simprocAttr]at ht)))
   refine X8 λb hb=>?_;(with_reducible refine gO ?_;simp(disch:=omega)only[Ac,↓Pc,simprocAttr,Mc])
   refine MO (by simp only[Kc,simprocAttr]<;>exact rfl) (by simp only[Kc,simprocAttr]<;>exact rfl) (by simp only[Kc,simprocAttr]<;>exact rfl) agy (by rw[vj _ _ (λe=>by rw[<- e,hA.top]at hb;cases hb)];exact hA.top) ?_;have vq:=hA.new hx.1 g2 hb;obtain⟨e1,k1,k2,k3⟩:=fin _ _ vq ⟨(x.cls,b,[]),G9,rfl⟩;repeat'(first|(((refine AU ?_);intro K hK) ;simp(disch:=omega)only[Ac,↓Pc,simprocAttr,aS,Mc])|(refine hK _ _ ?_;clear hK K)|((refine hn _ _ ?_);clear hn he;try clear Q))
   refine E9 (by simp only[Kc,simprocAttr]<;>exact rfl) (by simp only[Kc,simprocAttr]<;>exact rfl) IB vq.top ?_;rw[k3];(with_reducible refine gO ?_;simp(disch:=omega)only[Ac,↓Pc,simprocAttr,aS,k9,Mc])
   refine MO (by simp only[Kc,simprocAttr]<;>exact rfl) (by simp only[Kc,simprocAttr]<;>exact rfl) (by simp only[Kc,simprocAttr]<;>exact rfl) X9 (vq.sub e1 k1) ?_;repeat'(first|(((refine AU ?_);intro K hK) ;simp(disch:=omega)only[Ac,↓Pc,simprocAttr,Mc])|(refine hK _ _ ?_;clear hK K)|((refine hn _ _ ?_);clear hn he;try clear Q)|((refine kP _ _ ?_);clear kP oC qJ;try clear Qb)|with_reducible refine cI ?_ ?_|omega)
   exact ak _ _ (k+1) ⟨G3,_,by rw[jg];exact vq.put k1 k2⟩ G3 (by(refine nH.se [0] false (by simp only[Oc,simprocAttr]) ?_;simp only[Hr,↓reduceIte,Nat.reduceEqDiff,nq,Nat.reduceAdd];try(and_intros<;>first|exact .pure rfl|exact .eq rfl|exact .fz rfl (by simp only[Bc,Rc]))))
  ·refine E9 (by simp only[Kc,simprocAttr]<;>exact rfl) (by simp only[Kc,simprocAttr]<;>exact rfl) IB hA.top ?_;rw[g3];repeat'(first|(((refine AU ?_);intro K hK) ;simp(disch:=omega)only[Ac,↓Pc,simprocAttr,IC,k9,Hb,Mc])|(with_reducible refine gO ?_;simp(disch:=omega)only[Ac,↓Pc,simprocAttr,IC,k9,Hb,Mc])|(refine hK _ _ ?_;clear hK K)|(refine mc (λht=>?_) (λht=>?_)<;>(try simp only[pJ,simprocAttr]at ht))|refine xY rfl ?_|((refine hn _ _ ?_);clear hn he;try clear Q))
   refine E9 (by simp only[Kc,simprocAttr]<;>exact rfl) (by simp only[Kc,simprocAttr]<;>exact rfl) IB hA.top ?_;rw[g3];(with_reducible refine gO ?_;simp(disch:=omega)only[Ac,↓Pc,simprocAttr,aS,k9,Mc])
   refine MO (by simp only[Kc,simprocAttr]<;>exact rfl) (by simp only[Kc,simprocAttr]<;>exact rfl) (by simp only[Kc,simprocAttr]<;>exact rfl) X9 (hA.sub e0 g1) ?_;repeat'(first|(((refine AU ?_);intro K hK) ;simp(disch:=omega)only[Ac,↓Pc,simprocAttr,Mc])|(refine hK _ _ ?_;clear hK K)|((refine hn _ _ ?_);clear hn he;try clear Q)|((refine kP _ _ ?_);clear kP oC qJ;try clear Qb)|with_reducible refine cI ?_ ?_|omega)
   exact ak _ _ (k+1) ⟨G3,_,by rw[jg];exact hA.put g1 g2⟩ G3 (by(refine nH.se [0] false (by simp only[Oc,simprocAttr]) ?_;simp only[Hr,↓reduceIte,Nat.reduceEqDiff,nq,Nat.reduceAdd];try(and_intros<;>first|exact .pure rfl|exact .eq rfl|exact .fz rfl (by simp only[Bc,Rc]))))
 ·rw[ej G3]at hA;repeat'(first|(((refine mr ?_);intro K hK) ;simp(disch:=omega)only[Ac,↓Pc,simprocAttr,Mc])|(refine hK _ _ ?_;clear hK K)|(refine mc (λht=>?_) (λht=>?_)<;>(try simp only[pJ,simprocAttr]at ht))|refine xY rfl ?_|(refine zm ?_;intro Qb kP oC qJ)|(refine vn ?_;intro Q hn he)|((first|refine hn _ _ ?_|refine he _ _ _ rfl ?_);clear hn he;try clear Q)|with_reducible refine cI ?_ ?_|omega)
  refine ar _ _ _ rfl ?_;clear ak ar Ql;repeat(first|((refine hn _ _ ?_);clear hn he;try clear Q)|((refine oC _ _ ?_);clear kP oC qJ;try clear Qb))
  repeat'(first|(((refine mr ?_);intro K hK) ;simp(disch:=omega)only[Ac,↓Pc,simprocAttr,Mc])|(refine hK _ _ ?_;clear hK K)|(refine vn ?_;intro Q hn he))
  have Ya:=hA.AW;have E':=hA.sum;have zo:∀ x∈c.aJ,1<=x.wt/\x.wt<=1000:=λx hx=>(hc x hx).2;have mX:=Fa zo left;generalize hf:(λj:Nat=>nK c.aJ (A.getD j (0,0,[])).1 (left.getD (A.getD j (0,0,[])).1.toNat []))=f;have hf1:∀ j,nK c.aJ (A.getD j (0,0,[])).1 (left.getD (A.getD j (0,0,[])).1.toNat [])=f j:=λj=>by rw[<- hf]
  have dV:∀ j,0<=f j/\f j<=1000:=λj=>by rw[<- hf1];exact Yb zo _ _
  have hAl:A.length<=left.length:=hA.len;refine agu (by simp only[Kc,simprocAttr]<;>exact rfl) agz hA.top λr hr=>?_;repeat'(first|(refine hK _ _ ?_;clear hK K)|(refine zm ?_;intro Qb kP oC qJ))
  refine MJ (λseen:List Nat=>(⟨au [(1,.tree 1 (rowsOf aT left)),(2,.ptr 0 0 0),(8,aaa (wE f seen A.length)),(42,.lit (.pointer (some ⟨r,0,none⟩)))],[.var (aV c)]⟩:St))
   (λseen m=>GI left.length c.aJ A b0 m/\m r=some (.iter b0 A.length seen)) (λseen=>ID seen A.length) [] ⟨hA.other _ (λl=>by rw[hr];simp),by rw[zl,IE]⟩ (by(refine nH.au _ _ rfl ?_;simp only[Tc,↓reduceIte,Nat.reduceEqDiff,nq,Nat.reduceAdd,agB];try trivial)) ?_
  rintro seen m1⟨vq,rL⟩Ql ak ar;(((refine mr ?_);intro K hK) ;simp(disch:=omega)only[Ac,↓Pc,simprocAttr,Mc])
  refine agv (b:=b0) (seen:=seen) (ents:=iE (gE A)) (by simp only[Kc,simprocAttr]<;>exact rfl) (by rw[IE];exact rL) vq.top (λeB=>?_) (λj p hp hj=>?_)
  ·rw[IE]at eB;rw[agC eB,<- hf,Yc (λc'=>nK c.aJ c' (left.getD c'.toNat [])),E'];repeat'(first|(with_reducible refine gO ?_;simp(disch:=omega)only[Ac,↓Pc,simprocAttr,Mc])|(refine hK _ _ ?_;clear hK K)|(refine mc (λht=>?_) (λht=>?_)<;>(try simp only[pJ,simprocAttr]at ht))|refine xY rfl ?_|(refine vn ?_;intro Q hn he)|((refine he _ _ _ rfl ?_);clear hn he;try clear Q))
   refine ar _ _ _ rfl ?_;clear ak ar Ql;repeat(first|((refine hn _ _ ?_);clear hn he;try clear Q)|((refine oC _ _ ?_);clear kP oC qJ;try clear Qb))
   repeat'(first|(((refine mr ?_);intro K hK) ;simp(disch:=omega)only[Ac,↓Pc,simprocAttr,Mc])|(refine cA (Ww c (kT c.aJ 0 left 0) hm G3 mX.1 hp) rfl rfl ?_)|(refine hK _ _ ?_;clear hK K)|refine xY rfl ?_)
   refine Xe ?_;first|refine aE rfl ?_|refine Xl ?_ ?_
   rfl
  ·rw[Yd,Ye]at hp;cases he:A[j]? with
   |none=>rw[he]at hp;simp at hp
   |some e =>
    rw[he]at hp;simp only[fE,dD.injEq]at hp;subst hp;have kL:=(aY.1 he).1;have m8:A.getD j (0,0,[])=e:=by rw[aG,he];rfl
    have IF:e∈A:=List.mem_of_getElem? he;obtain⟨mW,lr⟩:=Ya e IF;have Fb:=hf1 j;rw[m8]at Fb;have hval:=vq.val e IF;have agD:=vq.sub e IF;have cZ:=bj _ (aB (l:=left) (i:=e.1.toNat) (d:=[]) G3);have hsi:=agE (f:=f) (B:=1000) (seen:=seen) (n:=A.length) G3 λi _=>dV i;have dX:=agF (f:=f) kL hj;have bx:=agG kL hj;generalize zq:left.getD e.1.toNat []=row at *;have Yf:left.getD e.1.toNat default=row:=zq;repeat'(first|(((refine mr ?_);intro K hK) ;simp(disch:=omega)only[Ac,↓Pc,simprocAttr,Mc])|(with_reducible refine gO ?_;simp(disch:=omega)only[Ac,↓Pc,simprocAttr,Mc])|(refine hK _ _ ?_;clear hK K)|(refine mc (λht=>?_) (λht=>?_)<;>(try simp only[pJ,simprocAttr]at ht))|refine xY rfl ?_|(refine zm ?_;intro Qb kP oC qJ)|(refine vn ?_;intro Q hn he)|((refine hn _ _ ?_);clear hn he;try clear Q))
    refine agw (seen:=seen) (j:=j) (b:=b0) (ents:=iE (gE A)) (q:=(.int .i64 e.1,.map (some e.2.1))) (by simp only[Kc,simprocAttr]<;>exact rfl) (zl _ _ _) (by rw[vj _ _ (λe2=>by rw[<- e2,vq.top]at rL;cases rL)];exact vq.top) (by rw[Yd,Ye,he];rfl) ?_;repeat'(first|(((refine mr ?_);intro K hK) ;simp(disch:=omega)only[Ac,↓Pc,simprocAttr,Yf,aT,Mc])|(with_reducible refine gO ?_;simp(disch:=omega)only[Ac,↓Pc,simprocAttr,Yf,aT,Mc])|(refine hK _ _ ?_;clear hK K)|(refine zm ?_;intro Qb kP oC qJ)|(refine vn ?_;intro Q hn he)|with_reducible refine cI ?_ ?_|omega)
    generalize rW:kS m1 r (.iter b0 (iE (gE A)).length (seen++[j]))=m2;have fB:m2 r=some (.iter b0 A.length (seen++[j])):=by rw[<- rW,zl,IE]
    have IG:GI left.length c.aJ A b0 m2:=by rw[<- rW];exact vq.other _ λl=>by rw[rL];simp
    have agH:=IG.sub e IF;clear agD;refine MJ (λo:Nat=>(⟨au [(1,.tree 1 (rowsOf aT left)),(2,.ptr 0 0 0),(8,aaa (wE f seen A.length)),(42,.lit (.pointer (some ⟨r,0,none⟩))),(10,.lit (.map (some e.2.1))),(11,aaa (eI c.aJ e.1 0 (row.take o) (-1))),(51,.tree 1 (aX row)),(52,aaa row.length),(53,aaa o)],[.var (aV c)]⟩:St))
     (λo m=>o<=row.length/\m=m2) (λo=>row.length-o) 0 ⟨aF _,rfl⟩ (by(refine nH.au _ _ rfl ?_;simp only[Tc,↓reduceIte,Nat.reduceEqDiff,nq,Nat.reduceAdd,ky,eI];try trivial)) ?_
    rintro o m3⟨ho,rfl⟩cL a7 ba;have hb:=IH zo e.1 (row.take o) 0 (-1) G3;by_cases cy:o<row.length
    ·have jg:eI c.aJ e.1 0 (row.take (o+1)) (-1)=if row.getD o false=true/\(eI c.aJ e.1 0 (row.take o) (-1)<0\/gT c.aJ e.1 o 0<eI c.aJ e.1 0 (row.take o) (-1)) then gT c.aJ e.1 o 0 else eI c.aJ e.1 0 (row.take o) (-1):=by
      rw[Ky cy,MQ,aG,bT cy,List.length_take,Nat.min_eq_left G3,Nat.zero_add];rfl
     have hw:=AX zo e.1 o 0 G3;have hv:=hval o;generalize eI c.aJ e.1 0 (row.take o) (-1)=b at *;generalize gT c.aJ e.1 o 0=w at *;generalize AY:row.getD o false=is at *;repeat'(first|(((refine mr ?_);intro K hK) ;simp(disch:=omega)only[Ac,↓Pc,simprocAttr,AY,Mc])|(refine hK _ _ ?_;clear hK K)|(refine mc (λht=>?_) (λht=>?_)<;>(try simp only[pJ,simprocAttr]at ht))|refine xY rfl ?_|(refine zm ?_;intro Qb kP oC qJ)|(refine vn ?_;intro Q hn he)|((first|refine hn _ _ ?_|refine he _ _ _ rfl ?_);clear hn he;try clear Q)|with_reducible refine cI ?_ ?_|omega)
     refine E9 (by simp only[Kc,simprocAttr]<;>exact rfl) (by simp only[Kc,simprocAttr]<;>exact rfl) agx agH ?_;rw[Yg,hv];repeat'(first|(((first|refine mr ?_|refine AU ?_);intro K hK) ;simp(disch:=omega)only[Ac,↓Pc,simprocAttr,AY,Mc])|(with_reducible refine gO ?_;simp(disch:=omega)only[Ac,↓Pc,simprocAttr,AY,Mc])|(refine hK _ _ ?_;clear hK K)|(with_reducible refine gS (λcW=>?_) (λcW=>?_)<;>(have hb:=cW;(try simp only[pJ,simprocAttr]at hb);simp(disch:=omega)only[Ac,↓Pc,simprocAttr,AY,Mc,cW];clear cW))|(refine mc (λht=>?_) (λht=>?_)<;>(try simp only[pJ,simprocAttr]at ht))|refine xY rfl ?_|((refine hn _ _ ?_);clear hn he;try clear Q)|((refine kP _ _ ?_);clear kP oC qJ;try clear Qb)|with_reducible refine cI ?_ ?_|omega)
     all_goals
      refine a7 _ _ (o+1) ⟨G3,rfl⟩ G3 ?_;simp only[jg];first
       |rw[if_pos ⟨by assumption,G3⟩]
       |rw[if_neg (by rintro⟨h1,h2⟩;first|omega|(simp only[h1]at *;contradiction)|simp_all)]
      (refine nH.au _ _ rfl ?_;simp only[Tc,↓reduceIte,Nat.reduceEqDiff,nq,Nat.reduceAdd];try trivial)
    ·rw[ej G3]at hb;have ld:max (eI c.aJ e.1 0 row (-1)) 0=f j:=Fb;repeat'(first|(((refine mr ?_);intro K hK) ;simp(disch:=omega)only[Ac,↓Pc,simprocAttr,ej (show row.length<=o by omega),Mc])|(refine hK _ _ ?_;clear hK K)|(refine mc (λht=>?_) (λht=>?_)<;>(try simp only[pJ,simprocAttr]at ht))|refine xY rfl ?_|(refine zm ?_;intro Qb kP oC qJ)|(refine vn ?_;intro Q hn he)|((first|refine hn _ _ ?_|refine he _ _ _ rfl ?_);clear hn he;try clear Q)|with_reducible refine cI ?_ ?_|omega)
     refine ba _ _ _ rfl ?_;clear a7 ba cL;repeat(first|((refine hn _ _ ?_);clear hn he;try clear Q)|((refine oC _ _ ?_);clear kP oC qJ;try clear Qb))
     repeat'(first|(((refine AU ?_);intro K hK) ;simp(disch:=omega)only[Ac,↓Pc,simprocAttr,Mc])|(refine hK _ _ ?_;clear hK K)|((refine kP _ _ ?_);clear kP oC qJ;try clear Qb)|with_reducible refine cI ?_ ?_|omega)
     exact ak _ _ (seen++[j]) ⟨IG,fB⟩ bx (by simp only[dX,<- ld];(refine nH.au _ _ rfl ?_;simp only[Tc,↓reduceIte,Nat.reduceEqDiff,nq,Nat.reduceAdd];try trivial))
def m9(q:Nat×Nat):List AV:=[.ref q.1 1 0 q.2]
def Yh(D:List (Nat×Nat))(p n:Nat):rowsOf m9 D++[[AV.ref p 1 0 n]]=rowsOf m9 (D++[(p,n)]):=by simp[rowsOf,m9]
structure eC(B:List (Nat×Ob))(D:List (Nat×Nat))(S:List (List Bool))(os:List Ob):Prop where
 base:∀ b∈B,os[b.1]?=some b.2
 len:D.length=S.length
 row:∀ j,j<D.length->os[(D.getD j default).1]?=some (.arr 1 (aX (S.getD j default)))/\(S.getD j default).length=(D.getD j default).2
 nd:(B.map (·.1)++D.map (·.1)).Nodup
section
variable {B:List (Nat×Ob)} {D:List (Nat×Nat)} {S:List (List Bool)} {os:List Ob}
def eC.app(h:eC B D S os)(l:List Ob):eC B D S (os++l):=⟨λb hb=>bf (h.base b hb) l,h.len,λj hj=>⟨bf (h.row j hj).1 l,(h.row j hj).2⟩,h.nd⟩
def eC.fresh(h:eC B D S os){p:Nat}(hp:os.length<=p):p ∉ B.map (·.1)++D.map (·.1):=λhh=>by
 rw[cz]at hh;rcases hh with hh|hh
 ·obtain⟨q,hq,rfl⟩:=cC.1 hh;have:=(aY.1 (h.base q hq)).1;omega
 ·obtain⟨q,hq,rfl⟩:=cC.1 hh;obtain⟨k,hk,rfl⟩:=tq.1 hq;have h1:=(h.row k hk).1;have a1:D.getD k default=D[k]:=by simp[hk]
  rw[a1]at h1;have:=(aY.1 h1).1;omega
def eC.other(h:eC B D S os){i:Nat}(hi:i ∉ B.map (·.1)++D.map (·.1))(y:Ob):eC B D S (os.set i y):=by
 rw[cz,not_or]at hi;refine⟨λb hb=>?_,h.len,λk hk=>⟨?_,(h.row k hk).2⟩,h.nd⟩
 ·rw[bM (λe=>hi.1 (cC.2 ⟨b,hb,e.symm⟩))];exact h.base b hb
 ·rw[bM (λe=>hi.2 (cC.2 ⟨D.getD k default,aB hk,e.symm⟩))];exact(h.row k hk).1
def eC.add(h:eC B D S os){k:Nat}{x:Ob}(hk:os[k]?=some x)(hf:k ∉ B.map (·.1)++D.map (·.1)):eC ((k,x)::B) D S os :=
 ⟨λb hb=>by rcases cu.1 hb with rfl|hb;exact hk;exact h.base b hb,h.len,h.row,by
  rw[dK,dP,uH];exact⟨hf,h.nd⟩⟩
def eC.b0{a:Nat×Ob}(h:eC (a::B) D S os):os[a.1]?=some a.2:=h.base a G9
def eC.b1{a b:Nat×Ob}(h:eC (a::b::B) D S os):os[b.1]?=some b.2:=h.base b G9
def eC.b2{a b c:Nat×Ob}(h:eC (a::b::c::B) D S os):os[c.1]?=some c.2:=h.base c G9
def eC.b3{a b c d:Nat×Ob}(h:eC (a::b::c::d::B) D S os):os[d.1]?=some d.2:=h.base d G9
def eC.put{i:Nat}{x:Ob}(h:eC ((i,x)::B) D S os)(y:Ob):eC ((i,y)::B) D S (os.set i y):=by
 have hn:=h.nd;rw[dK,dP,uH]at hn;have hx:=h.base (i,x) G9;have h2:eC B D S os:=⟨λb hb=>h.base b (by simp[hb]),h.len,h.row,hn.2⟩;exact(h2.other hn.1 y).add (j3 hx) hn.1
def eC.drop{i:Nat}{x:Ob}(h:eC ((i,x)::B) D S os):eC B D S os/\i ∉ B.map (·.1)++D.map (·.1):=by
 have hn:=h.nd;rw[dK,dP,uH]at hn;exact⟨⟨λb hb=>h.base b (by simp[hb]),h.len,h.row,hn.2⟩,hn.1⟩
def eC.swap{a b:Nat×Ob}(h:eC (a::b::B) D S os):eC (b::a::B) D S os :=
 ⟨λc hc=>h.base c (by simp only[cu]at hc ⊢;rcases hc with hc|hc|hc<;>simp[hc]),h.len,h.row,by
  have:=h.nd;simp only[dK,dP,uH,cu,not_or]at this ⊢;exact⟨⟨Ne.symm this.1.1,this.2.1⟩,this.1.2,this.2.2⟩⟩
def eC.snoc{p:Nat}{r:List Bool}(h:eC ((p,.arr 1 (aX r))::B) D S os):eC B (D++[(p,r.length)]) (S++[r]) os:=by
 obtain⟨h2,hf⟩:=h.drop;have hp:=h.base (p,.arr 1 (aX r)) G9;refine⟨h2.base,by simp[h2.len],λj hj=>?_,?_⟩
 ·rw[II,II,<- h2.len];by_cases h1:j<D.length
  ·rw[if_pos h1,if_pos h1];exact h2.row j h1
  ·have:j=D.length:=by simp at hj;omega
   rw[if_neg h1,if_neg h1,if_pos this,if_pos this];exact⟨hp,rfl⟩
 ·rw[List.map_append,<- List.append_assoc,List.nodup_append];refine⟨h2.nd,G9,λa ha b hb=>?_⟩;simp only[dK,k7,ec]at hb;subst hb;exact λe=>hf (e▸ha)
end
def lB(p:Nat):List (List Bool)->List (List AV)
 |[]=>[]
 |r::t=>[.ref p 1 0 r.length]::lB (p+1) t
def qL(S:List (List Bool)):List Ob:=S.map λr=>.arr 1 (aX r)
def IJ(S:List (List Bool)):(qL S).length=S.length:=List.length_map _
def IK:∀ (p:Nat) (S:List (List Bool)),(lB p S).length=S.length
 |_,[]=>rfl
 |p,r::t=>by simp only[lB,List.length_cons,IK (p+1) t]
def Fe:∀ (p:Nat) (S:List (List Bool)) (j:Nat),j<S.length->(lB p S)[j]?=some [.ref (p+j) 1 0 (S.getD j default).length]
 |_,[],j,h=>by simp at h
 |p,r::t,0,h=>rfl
 |p,r::t,j+1,h=>by
  rw[lB,vQ,Fe (p+1) t j (by simpa using h)];rw[show p+1+j=p+(j+1) by omega,gN]
def agI{S T:List (List Bool)}(p:Nat)(h:S.map rq=T.map rq):lB p S=lB p T:=by
 induction S generalizing T p with
 |nil=>cases T with
  |nil=>rfl
  |cons=>simp at h
 |cons r S ih=>cases T with
  |nil=>simp at h
  |cons t T =>
   simp only[dK,List.cons.injEq]at h;rw[lB,lB,h.1,ih (p+1) h.2]
def agJ(ρ:Nat->Nat)(S:List (List Bool)):∀ (q p:Nat),(∀ j,j<S.length->ρ (p+j)=q+j)->(lB p S).map (List.map (br ρ))=lB q S:=by
 induction S with
 |nil=>intro q p _;rfl
 |cons r t ih =>
  intro q p h;have h0:=h 0 G9;rw[iY,iY]at h0;rw[lB,lB,dK,dK,k7,br,h0];refine congrArg _ (ih (q+1) (p+1) λj hj=>?_);have:=h (j+1) (by simpa using hj);rw[show p+1+j=p+(j+1) by omega,this];omega
def agK(ρ:Nat->Nat)(S:List (List Bool)):(qL S).map (bU ρ)=qL S:=by
 unfold qL;rw[List.map_map];refine List.map_congr_left λr _=>?_;show bU ρ (.arr 1 (aX r))=_;exact Ai _ _ _
def IL{B:List (Nat×Ob)}{D:List (Nat×Nat)}{S:List (List Bool)}{os:List Ob}(h:eC B D S os){j:Nat}(hj:j<S.length):(rowsOf m9 D)[j]?=some [.ref (D.getD j default).1 1 0 (S.getD j default).length]:=by
 have hd:=h.len;have h2:=(h.row j G3).2;rw[h2];unfold rowsOf;rw[b6,aG,bT G3];rfl
def eC.ret{D:List (Nat×Nat)}{S:List (List Bool)}{os:List Ob}{x:Ob}{oi:Nat}(h:eC [(0,x),(oi,.arr 1 (rowsOf m9 D))] D S os)(hx:∀ ρ,bU ρ x=x)(hg:x≠.gone)(e:Nat->AV):
  pH 1 ⟨e,os⟩ (.ref oi 1 0 S.length) (.ref 1 1 0 S.length) (x::.arr 1 (lB 2 S)::qL S):=by
 have hd:=h.len;have h0:=h.base (0,x) G9;have h1:=h.base (oi,.arr 1 (rowsOf m9 D)) G9;dsimp only at h0 h1;have hl:∀ i∈0::oi::D.map (·.1),i<os.length:=λi hi=>by
  rcases cu.1 hi with rfl|hi
  ·exact(aY.1 h0).1
  rcases cu.1 hi with rfl|hi
  ·exact(aY.1 h1).1
  obtain⟨q,hq,rfl⟩:=cC.1 hi;obtain⟨k,hk,rfl⟩:=tq.1 hq;have h3:=(h.row k hk).1;have a1:D.getD k default=D[k]:=by simp[hk]
  rw[a1]at h3;exact(aY.1 h3).1
 have MR:∀ j,j<S.length->bA os.length (0::oi::D.map (·.1)) (2+j)=(D.getD j default).1:=λj hj=>by
  unfold bA;rw[if_pos PX,show 2+j=j+1+1 by omega,gN,gN,aG,b6,aG,bT G3];rfl
 refine⟨0::oi::D.map (·.1),false,by simpa using h.nd,by simp[IJ,hd],λj o hj=>.inr ?_,hl,G9,λi hi=>?_,.eq ?_⟩
 ·match j with
  |0 =>
   simp only[vP,dD.injEq]at hj;subst hj;rw[hx];exact h0
  |1 =>
   simp only[vQ,vP,dD.injEq]at hj;subst hj;refine h1.trans (congrArg some ?_);rw[bU];refine congrArg _ (List.ext_getElem? λi=>?_);rw[b6];by_cases hi:i<S.length
   ·rw[IL h hi,Fe 2 S i hi,fE,dK,k7,br,MR i hi]
   ·rw[ei (by simp[rowsOf];omega),ei (by rw[IK];omega)];rfl
  |j+2 =>
   simp only[vQ]at hj;have kL:j<S.length:=by have:=(aY.1 hj).1;rwa [IJ]at this
   have h3:=(h.row j G3).1;unfold qL at hj;rw[b6,bT kL]at hj;simp only[fE,dD.injEq]at hj;subst hj;rw[Ai];have e1:(0::oi::D.map (·.1)).getD (j+2) 0=(D.getD j default).1:=by
    rw[gN,gN,aG,b6,aG,bT G3];rfl
   have e2:S.getD j default=S[j]:=by rw[aG,bT kL];rfl
   rw[e1,<- e2];exact h3
 ·have:i=0:=G3;subst this;rfl
 ·rw[br];have:bA os.length (0::oi::D.map (·.1)) 1=oi:=by unfold bA;rw[if_pos G9];rfl
  rw[this]
def nO(x:Ob)(A:List (List AV))(Y:List (List Bool)):List Ob:=x::.arr 1 A::qL Y
def nOk(x:Ob)(A:List (List AV)){Y:List (List Bool)}{i:Nat}(h:i<Y.length):(nO x A Y)[2+i]?=some (.arr 1 (aX (Y.getD i default))):=by
 unfold nO;rw[show 2+i=i+1+1 by omega,vQ,vQ];unfold qL;rw[b6,aG,bT h];rfl
def nOs(x:Ob)(A:List (List AV))(Y:List (List Bool))(i:Nat)(r:List Bool):(nO x A Y).set (2+i) (.arr 1 (aX r))=nO x A (Y.set i r):=by
 unfold nO qL;rw[show 2+i=i+1+1 by omega,n6,n6,List.map_set]
def kG.AZ{R:AV->AV->Prop}{f:Nat->List AV}{g:Nat->List AV}:∀ {cs ds:List (List AV)},cs.length=ds.length->(∀ (j:Nat) c d,cs[j]?=some c->ds[j]?=some d->eY R c d)->kG R cs ds
 |[],[],_,_=>trivial
 |[],_::_,h,_=>by simp at h
 |_::_,[],h,_=>by simp at h
 |c::cs,d::ds,h,k=>⟨k 0 c d rfl rfl,kG.AZ (f:=f) (g:=g) (by simpa using h) λj c d hc hd=>k (j+1) c d (by simpa using hc) (by simpa using hd)⟩
def Yi{σ:St}{kp:Nat->Prop}{id:Nat}{bs:List Bool}(ho:σ.aa[id]?=some (.arr 1 (aX bs)))(hk:¬ kp id):cG σ kp (.tree 1 (aX bs)) (.ref id 1 0 bs.length) :=
 cG.mk ho (by simp[aX]) hk (D9 _) (kG.AZ (f:=λ_=>[]) (g:=λ_=>[]) rfl λj c d hc hd=>by
  rw[hc]at hd;cases hd;unfold aX at hc;rw[b6]at hc;cases hb:bs[j]? with
  |none=>rw[hb]at hc;cases hc
  |some b=>rw[hb]at hc;simp only[fE,dD.injEq]at hc;subst hc;exact⟨.lit _,trivial⟩)
theorem agN{σ:St}{kp:Nat->Prop}{oi:Nat}{A:List (List AV)}{S:List (List Bool)}(ho:σ.aa[oi]?=some (.arr 1 A))(hk:¬ kp oi)(hA:A.length=S.length)(h:∀ j,j<S.length->∃ id,A[j]?=some [.ref id 1 0 (S.getD j default).length]/\σ.aa[id]?=some (.arr 1 (aX (S.getD j default)))/\¬ kp id):cG σ kp (.tree 1 (rowsOf aT S)) (.ref oi 1 0 S.length) :=
 cG.mk ho hA.symm hk (fQ _) (kG.AZ (f:=fun _=>[]) (g:=fun _=>[]) (by simp[rowsOf,hA]) fun j c d hc hd=>by
  unfold rowsOf at hc;rw[List.getElem?_map]at hc;have hj:j<S.length:=by
   cases hb:S[j]? with
   |none=>rw[hb]at hc;cases hc
   |some b=>exact(List.getElem?_eq_some_iff.1 hb).1
  obtain⟨id,h1,h2,h3⟩:=h j hj;rw[h1]at hd;simp only[Option.some.injEq]at hd;subst hd;rw[List.getElem?_eq_getElem hj]at hc;simp only[Option.map_some,Option.some.injEq]at hc;subst hc;have e2:S.getD j default=S[j]:=by rw[List.getD_eq_getElem?_getD,List.getElem?_eq_getElem hj];rfl
  rw[e2]at h2 ⊢;exact⟨Yi h2 h3,trivial⟩)
end T

