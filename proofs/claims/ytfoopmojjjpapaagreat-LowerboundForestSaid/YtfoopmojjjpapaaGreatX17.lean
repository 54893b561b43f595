import Derived.Test.YtfoopmojjjpapaaGreatX16
import Derived.Test.YtfoopmojjjpapaaGreatX13
set_option linter.all false
set_option maxHeartbeats 0
set_option maxRecDepth 20000
open List renaming mem_singleton→dI,take_zero→mK,take_succ_eq_append_getElem→O3,getD_eq_getElem?_getD→az,getElem?_eq_getElem→bS,take_of_length_le→c9,getElem?_eq_some_iff→aT,mem_append→da,mem_map→b6,mem_iff_getElem→wD,getElem?_set_ne→fN,mem_cons→a8,map_cons→fF,cons_append→e9,nodup_cons→mO,map_nil→mf,getElem?_cons_succ→rU,getD_cons_succ→eS,length→jB,getElem?_map→bY,getElem?_cons_zero→uV,getElem?_eq_none→fY,set_cons_succ→wG
open Nat renaming zero_le→aS,reduceBEq→qZ,add_zero→il
open And renaming intro→c6
open Option renaming getD_none→OU,isNone_none→O6,getD_some→pQ,map_some→im,some→cy
open Go Go.Am Go.Proofs
namespace T
def aE(l:List Bool):List AV:=[.tree 1 (br l)]
instance:Row aE 1:=⟨λ_=>rfl,λl v hv=>by
 simp only[aE,dI]at hv;subst hv;exact .inr ⟨_,_,rfl⟩⟩
def HV:HR Tryz.prog 211 (.map none):=⟨_,_,rfl,rfl,λw=>OI⟩
def aiX:HR Tryz.prog 212 (.int .i64 0):=⟨_,_,rfl,rfl,λw=>OI⟩
def aiY:HQ Tryz.prog 211:=⟨_,_,rfl,rfl⟩
def X6:HQ Tryz.prog 212:=⟨_,_,rfl,rfl⟩
def aiZ:sU Tryz.prog 211:=⟨_,_,rfl⟩
def HW:sU Tryz.prog 212:=⟨_,_,rfl⟩
def ai0(c:Ct)(left:List (List Bool))(n:Nat)(anZ:left.length<=n)(hc:∀ x∈c.a6,(0<=x.cls/\x.cls<left.length)/\1<=x.wt/\x.wt<=1000)(hl:left.length<=1000)(bR:∀ r∈left,r.length<=1000)(ic:c.a6.length<9223372036854775808)(hm:0<=c.most)(hp:bQ c.cI):
  Holds Tryz.prog 117 [.agg (ej c),.tree 1 (rowsOf aE left)] [] (OJ (iW left c)) []:=by
 refine Holds.aQ 80 0 [.tmp 4] Tryz.func117 ?_;refine aiF ?_;repeat'(first|(((refine mr ?_);intro K hK) ;simp(disch:=omega)only[Ac,↓Pc,simprocAttr,Mc])|(refine hK _ _ ?_;clear hK K))
 refine XQ λb0 pA=>?_;repeat'(first|(((refine mr ?_);intro K hK) ;simp(disch:=omega)only[Ac,↓Pc,simprocAttr,Mc])|(with_reducible refine gO ?_;simp(disch:=omega)only[Ac,↓Pc,simprocAttr,Mc])|(refine hK _ _ ?_;clear hK K)|(refine pB ?_;intro Qb dE ee fj)|(refine nH ?_;intro Q hn he))
 refine G0 (λk:Nat=>(⟨ar [(1,.tree 1 (rowsOf aE left)),(2,.ptr 0 0 0),(5,.lit (.map (some b0))),(17,.tree 3 (rowsOf yd c.a6)),(18,OJ c.a6.length),(19,OJ k)],[.var (ej c)]⟩:St))
  (λk m=>k<=c.a6.length/\∃ A,GI left.length (c.a6.take k) A b0 m) (λk=>c.a6.length-k) 0 ⟨aS _,[],by rw[mK];exact GI.nil (rq _ _ _)⟩ (by(refine kY.ar _ _ rfl ?_;simp only[Tc,↓reduceIte,Nat.reduceEqDiff,qZ,Nat.reduceAdd];try trivial)) ?_
 rintro k m0⟨hk,A,hA⟩Ql ao ax;by_cases bc:k<c.a6.length
 ·have hx:=hc _ (aF (d:=default) bc);have hZ:c.a6.take (k+1)=c.a6.take k++[c.a6.getD k default]:=by
   rw[O3 bc,az,bS bc];rfl
  generalize cE:c.a6.getD k default=x at *;repeat'(first|(((refine mr ?_);intro K hK) ;simp(disch:=omega)only[Ac,↓Pc,simprocAttr,cE,Mc])|(refine hK _ _ ?_;clear hK K)|(refine mc (λht=>?_) (λht=>?_)<;>(try simp only[gQ,simprocAttr]at ht))|refine oE rfl ?_|(refine pB ?_;intro Qb dE ee fj)|(refine nH ?_;intro Q hn he)|((first|refine hn _ _ ?_|refine he _ _ _ rfl ?_);clear hn he;try clear Q)|with_reducible refine c6 ?_ ?_|omega)
  have fin:∀ A1 m1,GI left.length (c.a6.take k) A1 b0 m1->(∃ e∈A1,e.1=x.cls)->∃ e∈A1,e.1=x.cls/\nj x.cls (gE A1)=some (.map (some e.2.1)):=λA1 m1 h1 h2=>by
   rcases Mg x.cls A1 with⟨_,g⟩|g
   ·obtain⟨e,he,hh⟩:=h2;exact absurd hh (g e he)
   ·exact g
  rcases Mg x.cls A with⟨g1,g2⟩|⟨e0,g1,g2,g3⟩
  ·refine Et (by simp only[Kc,simprocAttr]<;>exact rfl) (by simp only[Kc,simprocAttr]<;>exact rfl) HV hA.top ?_;rw[g1];repeat'(first|(((refine qD ?_);intro K hK) ;simp(disch:=omega)only[Ac,↓Pc,simprocAttr,HW,OU,O6,Mc])|(with_reducible refine gO ?_;simp(disch:=omega)only[Ac,↓Pc,simprocAttr,HW,OU,O6,Mc])|(refine hK _ _ ?_;clear hK K)|(refine mc (λht=>?_) (λht=>?_)<;>(try simp only[gQ,simprocAttr]at ht)))
   refine XQ λb hb=>?_;(with_reducible refine gO ?_;simp(disch:=omega)only[Ac,↓Pc,simprocAttr,Mc])
   refine MF (by simp only[Kc,simprocAttr]<;>exact rfl) (by simp only[Kc,simprocAttr]<;>exact rfl) (by simp only[Kc,simprocAttr]<;>exact rfl) aiY (by rw[pC _ _ (λe=>by rw[<- e,hA.top]at hb;cases hb)];exact hA.top) ?_;have rA:=hA.new hx.1 g2 hb;obtain⟨e1,k1,k2,k3⟩:=fin _ _ rA ⟨(x.cls,b,[]),Fl,rfl⟩;repeat'(first|(((refine qD ?_);intro K hK) ;simp(disch:=omega)only[Ac,↓Pc,simprocAttr,cE,Mc])|(refine hK _ _ ?_;clear hK K)|((refine hn _ _ ?_);clear hn he;try clear Q))
   refine Et (by simp only[Kc,simprocAttr]<;>exact rfl) (by simp only[Kc,simprocAttr]<;>exact rfl) HV rA.top ?_;rw[k3];(with_reducible refine gO ?_;simp(disch:=omega)only[Ac,↓Pc,simprocAttr,cE,pQ,Mc])
   refine MF (by simp only[Kc,simprocAttr]<;>exact rfl) (by simp only[Kc,simprocAttr]<;>exact rfl) (by simp only[Kc,simprocAttr]<;>exact rfl) X6 (rA.sub e1 k1) ?_;repeat'(first|(((refine qD ?_);intro K hK) ;simp(disch:=omega)only[Ac,↓Pc,simprocAttr,Mc])|(refine hK _ _ ?_;clear hK K)|((refine hn _ _ ?_);clear hn he;try clear Q)|((refine dE _ _ ?_);clear dE ee fj;try clear Qb)|with_reducible refine c6 ?_ ?_|omega)
   exact ao _ _ (k+1) ⟨CZ,_,by rw[hZ];exact rA.put k1 k2⟩ CZ (by(refine kY.se [0] false (by simp only[Oc,simprocAttr]) ?_;simp only[Hr,↓reduceIte,Nat.reduceEqDiff,qZ,Nat.reduceAdd];try(and_intros<;>first|exact .pure rfl|exact .eq rfl|exact .fz rfl (by simp only[Bc,Rc]))))
  ·refine Et (by simp only[Kc,simprocAttr]<;>exact rfl) (by simp only[Kc,simprocAttr]<;>exact rfl) HV hA.top ?_;rw[g3];repeat'(first|(((refine qD ?_);intro K hK) ;simp(disch:=omega)only[Ac,↓Pc,simprocAttr,HW,pQ,Option.isNone_some,Mc])|(with_reducible refine gO ?_;simp(disch:=omega)only[Ac,↓Pc,simprocAttr,HW,pQ,Option.isNone_some,Mc])|(refine hK _ _ ?_;clear hK K)|(refine mc (λht=>?_) (λht=>?_)<;>(try simp only[gQ,simprocAttr]at ht))|refine oE rfl ?_|((refine hn _ _ ?_);clear hn he;try clear Q))
   refine Et (by simp only[Kc,simprocAttr]<;>exact rfl) (by simp only[Kc,simprocAttr]<;>exact rfl) HV hA.top ?_;rw[g3];(with_reducible refine gO ?_;simp(disch:=omega)only[Ac,↓Pc,simprocAttr,cE,pQ,Mc])
   refine MF (by simp only[Kc,simprocAttr]<;>exact rfl) (by simp only[Kc,simprocAttr]<;>exact rfl) (by simp only[Kc,simprocAttr]<;>exact rfl) X6 (hA.sub e0 g1) ?_;repeat'(first|(((refine qD ?_);intro K hK) ;simp(disch:=omega)only[Ac,↓Pc,simprocAttr,Mc])|(refine hK _ _ ?_;clear hK K)|((refine hn _ _ ?_);clear hn he;try clear Q)|((refine dE _ _ ?_);clear dE ee fj;try clear Qb)|with_reducible refine c6 ?_ ?_|omega)
   exact ao _ _ (k+1) ⟨CZ,_,by rw[hZ];exact hA.put g1 g2⟩ CZ (by(refine kY.se [0] false (by simp only[Oc,simprocAttr]) ?_;simp only[Hr,↓reduceIte,Nat.reduceEqDiff,qZ,Nat.reduceAdd];try(and_intros<;>first|exact .pure rfl|exact .eq rfl|exact .fz rfl (by simp only[Bc,Rc]))))
 ·rw[c9 CZ]at hA;repeat'(first|(((refine mr ?_);intro K hK) ;simp(disch:=omega)only[Ac,↓Pc,simprocAttr,Mc])|(refine hK _ _ ?_;clear hK K)|(refine mc (λht=>?_) (λht=>?_)<;>(try simp only[gQ,simprocAttr]at ht))|refine oE rfl ?_|(refine pB ?_;intro Qb dE ee fj)|(refine nH ?_;intro Q hn he)|((first|refine hn _ _ ?_|refine he _ _ _ rfl ?_);clear hn he;try clear Q)|with_reducible refine c6 ?_ ?_|omega)
  refine ax _ _ _ rfl ?_;clear ao ax Ql;repeat(first|((refine hn _ _ ?_);clear hn he;try clear Q)|((refine ee _ _ ?_);clear dE ee fj;try clear Qb))
  repeat'(first|(((refine mr ?_);intro K hK) ;simp(disch:=omega)only[Ac,↓Pc,simprocAttr,Mc])|(refine hK _ _ ?_;clear hK K)|(refine nH ?_;intro Q hn he))
  have hcA:=hA.qL;have yq:=hA.sum;have yM:∀ x∈c.a6,1<=x.wt/\x.wt<=1000:=λx hx=>(hc x hx).2;have ot:=Ef yM left;generalize hf:(λj:Nat=>lY c.a6 (A.getD j (0,0,[])).1 (left.getD (A.getD j (0,0,[])).1.toNat []))=f;have Bt:∀ j,lY c.a6 (A.getD j (0,0,[])).1 (left.getD (A.getD j (0,0,[])).1.toNat [])=f j:=λj=>by rw[<- hf]
  have cX:∀ j,0<=f j/\f j<=1000:=λj=>by rw[<- Bt];exact VH yM _ _
  have hAl:A.length<=left.length:=hA.len;refine aiR (by simp only[Kc,simprocAttr]<;>exact rfl) aiZ hA.top λr hr=>?_;repeat'(first|(refine hK _ _ ?_;clear hK K)|(refine pB ?_;intro Qb dE ee fj))
  refine G0 (λseen:List Nat=>(⟨ar [(1,.tree 1 (rowsOf aE left)),(2,.ptr 0 0 0),(8,OJ (vS f seen A.length)),(42,.lit (.pointer (some ⟨r,0,none⟩)))],[.var (ej c)]⟩:St))
   (λseen m=>GI left.length c.a6 A b0 m/\m r=some (.iter b0 A.length seen)) (λseen=>DP seen A.length) [] ⟨hA.other _ (λl=>by rw[hr];simp),by rw[rq,HE]⟩ (by(refine kY.ar _ _ rfl ?_;simp only[Tc,↓reduceIte,Nat.reduceEqDiff,qZ,Nat.reduceAdd,aii];try trivial)) ?_
  rintro seen m1⟨rA,jG⟩Ql ao ax;(((refine mr ?_);intro K hK) ;simp(disch:=omega)only[Ac,↓Pc,simprocAttr,Mc])
  refine aiS (b:=b0) (seen:=seen) (ents:=iE (gE A)) (by simp only[Kc,simprocAttr]<;>exact rfl) (by rw[HE];exact jG) rA.top (λfk=>?_) (λj p hp hj=>?_)
  ·rw[HE]at fk;rw[aih fk,<- hf,VO (λc'=>lY c.a6 c' (left.getD c'.toNat [])),yq];repeat'(first|(with_reducible refine gO ?_;simp(disch:=omega)only[Ac,↓Pc,simprocAttr,Mc])|(refine hK _ _ ?_;clear hK K)|(refine mc (λht=>?_) (λht=>?_)<;>(try simp only[gQ,simprocAttr]at ht))|refine oE rfl ?_|(refine nH ?_;intro Q hn he)|((refine he _ _ _ rfl ?_);clear hn he;try clear Q))
   refine ax _ _ _ rfl ?_;clear ao ax Ql;repeat(first|((refine hn _ _ ?_);clear hn he;try clear Q)|((refine ee _ _ ?_);clear dE ee fj;try clear Qb))
   repeat'(first|(((refine mr ?_);intro K hK) ;simp(disch:=omega)only[Ac,↓Pc,simprocAttr,Mc])|(refine b7 (ai2 c (j5 c.a6 0 left 0) hm CZ ot.1 hp) rfl rfl ?_)|(refine hK _ _ ?_;clear hK K)|refine oE rfl ?_)
   refine Xe ?_;first|refine aW rfl ?_|refine Xl ?_ ?_
   rfl
  ·rw[VP,VQ]at hp;cases he:A[j]? with
   |none=>rw[he]at hp;simp at hp
   |some e =>
    rw[he]at hp;simp only[im,cy.injEq]at hp;subst hp;have gF:=(aT.1 he).1;have HX:A.getD j (0,0,[])=e:=by rw[az,he];rfl
    have HY:e∈A:=List.mem_of_getElem? he;obtain⟨qn,nD⟩:=hcA e HY;have X7:=Bt j;rw[HX]at X7;have hval:=rA.val e HY;have ai3:=rA.sub e HY;have cr:=bR _ (aF (l:=left) (i:=e.1.toNat) (d:=[]) CZ);have U7:=aij (f:=f) (B:=1000) (seen:=seen) (n:=A.length) CZ λi _=>cX i;have dh:=aif (f:=f) gF hj;have ba:=Uh gF hj;generalize Cg:left.getD e.1.toNat []=row at *;have X8:left.getD e.1.toNat default=row:=Cg;repeat'(first|(((refine mr ?_);intro K hK) ;simp(disch:=omega)only[Ac,↓Pc,simprocAttr,Mc])|(with_reducible refine gO ?_;simp(disch:=omega)only[Ac,↓Pc,simprocAttr,Mc])|(refine hK _ _ ?_;clear hK K)|(refine mc (λht=>?_) (λht=>?_)<;>(try simp only[gQ,simprocAttr]at ht))|refine oE rfl ?_|(refine pB ?_;intro Qb dE ee fj)|(refine nH ?_;intro Q hn he)|((refine hn _ _ ?_);clear hn he;try clear Q))
    refine aiT (seen:=seen) (j:=j) (b:=b0) (ents:=iE (gE A)) (q:=(.int .i64 e.1,.map (some e.2.1))) (by simp only[Kc,simprocAttr]<;>exact rfl) (rq _ _ _) (by rw[pC _ _ (λe2=>by rw[<- e2,rA.top]at jG;cases jG)];exact rA.top) (by rw[VP,VQ,he];rfl) ?_;repeat'(first|(((refine mr ?_);intro K hK) ;simp(disch:=omega)only[Ac,↓Pc,simprocAttr,X8,aE,Mc])|(with_reducible refine gO ?_;simp(disch:=omega)only[Ac,↓Pc,simprocAttr,X8,aE,Mc])|(refine hK _ _ ?_;clear hK K)|(refine pB ?_;intro Qb dE ee fj)|(refine nH ?_;intro Q hn he)|with_reducible refine c6 ?_ ?_|omega)
    generalize xd:gY m1 r (.iter b0 (iE (gE A)).length (seen++[j]))=m2;have kv:m2 r=some (.iter b0 A.length (seen++[j])):=by rw[<- xd,rq,HE]
    have yr:GI left.length c.a6 A b0 m2:=by rw[<- xd];exact rA.other _ λl=>by rw[jG];simp
    have ai4:=yr.sub e HY;clear ai3;refine G0 (λo:Nat=>(⟨ar [(1,.tree 1 (rowsOf aE left)),(2,.ptr 0 0 0),(8,OJ (vS f seen A.length)),(42,.lit (.pointer (some ⟨r,0,none⟩))),(10,.lit (.map (some e.2.1))),(11,OJ (dG c.a6 e.1 0 (row.take o) (-1))),(51,.tree 1 (br row)),(52,OJ row.length),(53,OJ o)],[.var (ej c)]⟩:St))
     (λo m=>o<=row.length/\m=m2) (λo=>row.length-o) 0 ⟨aS _,rfl⟩ (by(refine kY.ar _ _ rfl ?_;simp only[Tc,↓reduceIte,Nat.reduceEqDiff,qZ,Nat.reduceAdd,mK,dG];try trivial)) ?_
    rintro o m3⟨ho,rfl⟩du bE bG;have hb:=HD yM e.1 (row.take o) 0 (-1) CZ;by_cases cH:o<row.length
    ·have hZ:dG c.a6 e.1 0 (row.take (o+1)) (-1)=if row.getD o false=true/\(dG c.a6 e.1 0 (row.take o) (-1)<0\/fM c.a6 e.1 o 0<dG c.a6 e.1 0 (row.take o) (-1)) then fM c.a6 e.1 o 0 else dG c.a6 e.1 0 (row.take o) (-1):=by
      rw[O3 cH,Mi,az,bS cH,List.length_take,Nat.min_eq_left CZ,Nat.zero_add];rfl
     have hw:=yA yM e.1 o 0 CZ;have hv:=hval o;generalize dG c.a6 e.1 0 (row.take o) (-1)=b at *;generalize fM c.a6 e.1 o 0=w at *;generalize Al:row.getD o false=is at *;repeat'(first|(((refine mr ?_);intro K hK) ;simp(disch:=omega)only[Ac,↓Pc,simprocAttr,Al,Mc])|(refine hK _ _ ?_;clear hK K)|(refine mc (λht=>?_) (λht=>?_)<;>(try simp only[gQ,simprocAttr]at ht))|refine oE rfl ?_|(refine pB ?_;intro Qb dE ee fj)|(refine nH ?_;intro Q hn he)|((first|refine hn _ _ ?_|refine he _ _ _ rfl ?_);clear hn he;try clear Q)|with_reducible refine c6 ?_ ?_|omega)
     refine Et (by simp only[Kc,simprocAttr]<;>exact rfl) (by simp only[Kc,simprocAttr]<;>exact rfl) aiX ai4 ?_;rw[VJ,hv];repeat'(first|(((first|refine mr ?_|refine qD ?_);intro K hK) ;simp(disch:=omega)only[Ac,↓Pc,simprocAttr,Al,Mc])|(with_reducible refine gO ?_;simp(disch:=omega)only[Ac,↓Pc,simprocAttr,Al,Mc])|(refine hK _ _ ?_;clear hK K)|(with_reducible refine gS (λaV=>?_) (λaV=>?_)<;>(have hb:=aV;(try simp only[gQ,simprocAttr]at hb);simp(disch:=omega)only[Ac,↓Pc,simprocAttr,Al,Mc,aV];clear aV))|(refine mc (λht=>?_) (λht=>?_)<;>(try simp only[gQ,simprocAttr]at ht))|refine oE rfl ?_|((refine hn _ _ ?_);clear hn he;try clear Q)|((refine dE _ _ ?_);clear dE ee fj;try clear Qb)|with_reducible refine c6 ?_ ?_|omega)
     all_goals
      refine bE _ _ (o+1) ⟨CZ,rfl⟩ CZ ?_;simp only[hZ];first
       |rw[if_pos ⟨by assumption,CZ⟩]
       |rw[if_neg (by rintro⟨h1,h2⟩;first|omega|(simp only[h1]at *;contradiction)|simp_all)]
      (refine kY.ar _ _ rfl ?_;simp only[Tc,↓reduceIte,Nat.reduceEqDiff,qZ,Nat.reduceAdd];try trivial)
    ·rw[c9 CZ]at hb;have jC:max (dG c.a6 e.1 0 row (-1)) 0=f j:=X7;repeat'(first|(((refine mr ?_);intro K hK) ;simp(disch:=omega)only[Ac,↓Pc,simprocAttr,c9 (show row.length<=o by omega),Mc])|(refine hK _ _ ?_;clear hK K)|(refine mc (λht=>?_) (λht=>?_)<;>(try simp only[gQ,simprocAttr]at ht))|refine oE rfl ?_|(refine pB ?_;intro Qb dE ee fj)|(refine nH ?_;intro Q hn he)|((first|refine hn _ _ ?_|refine he _ _ _ rfl ?_);clear hn he;try clear Q)|with_reducible refine c6 ?_ ?_|omega)
     refine bG _ _ _ rfl ?_;clear bE bG du;repeat(first|((refine hn _ _ ?_);clear hn he;try clear Q)|((refine ee _ _ ?_);clear dE ee fj;try clear Qb))
     repeat'(first|(((refine qD ?_);intro K hK) ;simp(disch:=omega)only[Ac,↓Pc,simprocAttr,Mc])|(refine hK _ _ ?_;clear hK K)|((refine dE _ _ ?_);clear dE ee fj;try clear Qb)|with_reducible refine c6 ?_ ?_|omega)
     exact ao _ _ (seen++[j]) ⟨yr,kv⟩ ba (by simp only[dh,<- jC];(refine kY.ar _ _ rfl ?_;simp only[Tc,↓reduceIte,Nat.reduceEqDiff,qZ,Nat.reduceAdd];try trivial))
def pJ(q:Nat×Nat):List AV:=[.ref q.1 1 0 q.2]
def HZ(D:List (Nat×Nat))(p n:Nat):rowsOf pJ D++[[AV.ref p 1 0 n]]=rowsOf pJ (D++[(p,n)]):=by simp[rowsOf,pJ]
structure dH(B:List (Nat×Ob))(D:List (Nat×Nat))(S:List (List Bool))(os:List Ob):Prop where
 base:∀ b∈B,os[b.1]?=some b.2
 len:D.length=S.length
 row:∀ j,j<D.length->os[(D.getD j default).1]?=some (.arr 1 (br (S.getD j default)))/\(S.getD j default).length=(D.getD j default).2
 nd:(B.map (·.1)++D.map (·.1)).Nodup
section
variable {B:List (Nat×Ob)} {D:List (Nat×Nat)} {S:List (List Bool)} {os:List Ob}
def dH.app(h:dH B D S os)(l:List Ob):dH B D S (os++l):=⟨λb hb=>aM (h.base b hb) l,h.len,λj hj=>⟨aM (h.row j hj).1 l,(h.row j hj).2⟩,h.nd⟩
def dH.fresh(h:dH B D S os){p:Nat}(hp:os.length<=p):p ∉ B.map (·.1)++D.map (·.1):=λhh=>by
 rw[da]at hh;rcases hh with hh|hh
 ·obtain⟨q,hq,rfl⟩:=b6.1 hh;have:=(aT.1 (h.base q hq)).1;omega
 ·obtain⟨q,hq,rfl⟩:=b6.1 hh;obtain⟨k,hk,rfl⟩:=wD.1 hq;have h1:=(h.row k hk).1;have a1:D.getD k default=D[k]:=by simp[hk]
  rw[a1]at h1;have:=(aT.1 h1).1;omega
def dH.other(h:dH B D S os){i:Nat}(hi:i ∉ B.map (·.1)++D.map (·.1))(y:Ob):dH B D S (os.set i y):=by
 rw[da,not_or]at hi;refine⟨λb hb=>?_,h.len,λk hk=>⟨?_,(h.row k hk).2⟩,h.nd⟩
 ·rw[fN (λe=>hi.1 (b6.2 ⟨b,hb,e.symm⟩))];exact h.base b hb
 ·rw[fN (λe=>hi.2 (b6.2 ⟨D.getD k default,aF hk,e.symm⟩))];exact(h.row k hk).1
def dH.add(h:dH B D S os){k:Nat}{x:Ob}(hk:os[k]?=some x)(hf:k ∉ B.map (·.1)++D.map (·.1)):dH ((k,x)::B) D S os :=
 ⟨λb hb=>by rcases a8.1 hb with rfl|hb;exact hk;exact h.base b hb,h.len,h.row,by
  rw[fF,e9,mO];exact⟨hf,h.nd⟩⟩
def dH.b0{a:Nat×Ob}(h:dH (a::B) D S os):os[a.1]?=some a.2:=h.base a Fl
def dH.b1{a b:Nat×Ob}(h:dH (a::b::B) D S os):os[b.1]?=some b.2:=h.base b Fl
def dH.b2{a b c:Nat×Ob}(h:dH (a::b::c::B) D S os):os[c.1]?=some c.2:=h.base c Fl
def dH.b3{a b c d:Nat×Ob}(h:dH (a::b::c::d::B) D S os):os[d.1]?=some d.2:=h.base d Fl
def dH.start(x y:Ob):dH [(0,x),(2,.arr 1 []),(1,y)] [] [] [x,y,.arr 1 []]:=⟨Fl,rfl,Fl,(show([0,2,1]:List Nat).Nodup by decide)⟩
def dH.put{i:Nat}{x:Ob}(h:dH ((i,x)::B) D S os)(y:Ob):dH ((i,y)::B) D S (os.set i y):=by
 have hn:=h.nd;rw[fF,e9,mO]at hn;have hx:=h.base (i,x) Fl;have h2:dH B D S os:=⟨λb hb=>h.base b (by simp[hb]),h.len,h.row,hn.2⟩;exact(h2.other hn.1 y).add (lS hx) hn.1
def dH.drop{i:Nat}{x:Ob}(h:dH ((i,x)::B) D S os):dH B D S os/\i ∉ B.map (·.1)++D.map (·.1):=by
 have hn:=h.nd;rw[fF,e9,mO]at hn;exact⟨⟨λb hb=>h.base b (by simp[hb]),h.len,h.row,hn.2⟩,hn.1⟩
def dH.swap{a b:Nat×Ob}(h:dH (a::b::B) D S os):dH (b::a::B) D S os :=
 ⟨λc hc=>h.base c (by simp only[a8]at hc ⊢;rcases hc with hc|hc|hc<;>simp[hc]),h.len,h.row,by
  have:=h.nd;simp only[fF,e9,mO,a8,not_or]at this ⊢;exact⟨⟨Ne.symm this.1.1,this.2.1⟩,this.1.2,this.2.2⟩⟩
def dH.snoc{p:Nat}{r:List Bool}(h:dH ((p,.arr 1 (br r))::B) D S os):dH B (D++[(p,r.length)]) (S++[r]) os:=by
 obtain⟨h2,hf⟩:=h.drop;have hp:=h.base (p,.arr 1 (br r)) Fl;refine⟨h2.base,by simp[h2.len],λj hj=>?_,?_⟩
 ·rw[HG,HG,<- h2.len];by_cases h1:j<D.length
  ·rw[if_pos h1,if_pos h1];exact h2.row j h1
  ·have:j=D.length:=by simp at hj;omega
   rw[if_neg h1,if_neg h1,if_pos this,if_pos this];exact⟨hp,rfl⟩
 ·rw[List.map_append,<- List.append_assoc,List.nodup_append];refine⟨h2.nd,Fl,λa ha b hb=>?_⟩;simp only[fF,mf,dI]at hb;subst hb;exact λe=>hf (e▸ha)
end
def fV(p:Nat):List (List Bool)->List (List AV)
 |[]=>[]
 |r::t=>[.ref p 1 0 r.length]::fV (p+1) t
def rH(S:List (List Bool)):List Ob:=S.map λr=>.arr 1 (br r)
def Ev(S:List (List Bool)):(rH S).length=S.length:=List.length_map _
def BE:∀ (p:Nat) (S:List (List Bool)),(fV p S).length=S.length
 |_,[]=>rfl
 |p,r::t=>by simp only[fV,List.length_cons,BE (p+1) t]
def zP:∀ (p:Nat) (S:List (List Bool)) (j:Nat),j<S.length->(fV p S)[j]?=some [.ref (p+j) 1 0 (S.getD j default).length]
 |_,[],j,h=>by simp at h
 |p,r::t,0,h=>rfl
 |p,r::t,j+1,h=>by
  rw[fV,rU,zP (p+1) t j (by simpa using h)];rw[show p+1+j=p+(j+1) by omega,eS]
def To{S T:List (List Bool)}(p:Nat)(h:S.map jB=T.map jB):fV p S=fV p T:=by
 induction S generalizing T p with
 |nil=>cases T with
  |nil=>rfl
  |cons=>simp at h
 |cons r S ih=>cases T with
  |nil=>simp at h
  |cons t T =>
   simp only[fF,List.cons.injEq]at h;rw[fV,fV,h.1,ih (p+1) h.2]
def Tj(ρ:Nat->Nat)(S:List (List Bool)):∀ (q p:Nat),(∀ j,j<S.length->ρ (p+j)=q+j)->(fV p S).map (List.map (bh ρ))=fV q S:=by
 induction S with
 |nil=>intro q p _;rfl
 |cons r t ih =>
  intro q p h;have h0:=h 0 Fl;rw[il,il]at h0;rw[fV,fV,fF,fF,mf,bh,h0];refine congrArg _ (ih (q+1) (p+1) λj hj=>?_);have:=h (j+1) (by simpa using hj);rw[show p+1+j=p+(j+1) by omega,this];omega
def Tk(ρ:Nat->Nat)(S:List (List Bool)):(rH S).map (bM ρ)=rH S:=by
 unfold rH;rw[List.map_map];refine List.map_congr_left λr _=>?_;show bM ρ (.arr 1 (br r))=_;exact A7 _ _ _
def X9{B:List (Nat×Ob)}{D:List (Nat×Nat)}{S:List (List Bool)}{os:List Ob}(h:dH B D S os){j:Nat}(hj:j<S.length):(rowsOf pJ D)[j]?=some [.ref (D.getD j default).1 1 0 (S.getD j default).length]:=by
 have hd:=h.len;have h2:=(h.row j CZ).2;rw[h2];unfold rowsOf;rw[bY,az,bS CZ];rfl
def dH.ret{D:List (Nat×Nat)}{S:List (List Bool)}{os:List Ob}{x:Ob}{oi:Nat}(h:dH [(0,x),(oi,.arr 1 (rowsOf pJ D))] D S os)(hx:∀ ρ,bM ρ x=x)(hg:x≠.gone)(e:Nat->AV):
  nR 1 ⟨e,os⟩ (.ref oi 1 0 S.length) (.ref 1 1 0 S.length) (x::.arr 1 (fV 2 S)::rH S):=by
 have hd:=h.len;have h0:=h.base (0,x) Fl;have h1:=h.base (oi,.arr 1 (rowsOf pJ D)) Fl;dsimp only at h0 h1;have hl:∀ i∈0::oi::D.map (·.1),i<os.length:=λi hi=>by
  rcases a8.1 hi with rfl|hi
  ·exact(aT.1 h0).1
  rcases a8.1 hi with rfl|hi
  ·exact(aT.1 h1).1
  obtain⟨q,hq,rfl⟩:=b6.1 hi;obtain⟨k,hk,rfl⟩:=wD.1 hq;have h3:=(h.row k hk).1;have a1:D.getD k default=D[k]:=by simp[hk]
  rw[a1]at h3;exact(aT.1 h3).1
 have MJ:∀ j,j<S.length->bq os.length (0::oi::D.map (·.1)) (2+j)=(D.getD j default).1:=λj hj=>by
  unfold bq;rw[if_pos Jo,show 2+j=j+1+1 by omega,eS,eS,az,bY,az,bS CZ];rfl
 refine⟨0::oi::D.map (·.1),false,by simpa using h.nd,by simp[Ev,hd],λj o hj=>.inr ?_,hl,Fl,λi hi=>?_,.eq ?_⟩
 ·match j with
  |0 =>
   simp only[uV,cy.injEq]at hj;subst hj;rw[hx];exact h0
  |1 =>
   simp only[rU,uV,cy.injEq]at hj;subst hj;refine h1.trans (congrArg some ?_);rw[bM];refine congrArg _ (List.ext_getElem? λi=>?_);rw[bY];by_cases hi:i<S.length
   ·rw[X9 h hi,zP 2 S i hi,im,fF,mf,bh,MJ i hi]
   ·rw[fY (by simp[rowsOf];omega),fY (by rw[BE];omega)];rfl
  |j+2 =>
   simp only[rU]at hj;have gF:j<S.length:=by have:=(aT.1 hj).1;rwa [Ev]at this
   have h3:=(h.row j CZ).1;unfold rH at hj;rw[bY,bS gF]at hj;simp only[im,cy.injEq]at hj;subst hj;rw[A7];have e1:(0::oi::D.map (·.1)).getD (j+2) 0=(D.getD j default).1:=by
    rw[eS,eS,az,bY,az,bS CZ];rfl
   have e2:S.getD j default=S[j]:=by rw[az,bS gF];rfl
   rw[e1,<- e2];exact h3
 ·have:i=0:=CZ;subst this;rfl
 ·rw[bh];have:bq os.length (0::oi::D.map (·.1)) 1=oi:=by unfold bq;rw[if_pos Fl];rfl
  rw[this]
def nO(x:Ob)(A:List (List AV))(Y:List (List Bool)):List Ob:=x::.arr 1 A::rH Y
def yi(x:Ob)(A:List (List AV))(Y:List (List Bool)):(nO x A Y)[1]?=some (.arr 1 A):=rfl
def GJ(x:Ob)(A:List (List AV)){Y:List (List Bool)}{i:Nat}(h:i<Y.length):(nO x A Y)[2+i]?=some (.arr 1 (br (Y.getD i default))):=by
 unfold nO;rw[show 2+i=i+1+1 by omega,rU,rU];unfold rH;rw[bY,az,bS h];rfl
def Tm(x:Ob)(A:List (List AV))(Y:List (List Bool))(i:Nat)(r:List Bool):(nO x A Y).set (2+i) (.arr 1 (br r))=nO x A (Y.set i r):=by
 unfold nO rH;rw[show 2+i=i+1+1 by omega,wG,wG,List.map_set]
def Tq(x:Ob)(A:List (List AV))(Y:List (List Bool)):(nO x A Y).length=2+Y.length:=by unfold nO;simp[Ev];omega
def tX.H0{R:AV->AV->Prop}{f:Nat->List AV}{g:Nat->List AV}:∀ {cs ds:List (List AV)},cs.length=ds.length->(∀ (j:Nat) c d,cs[j]?=some c->ds[j]?=some d->nS R c d)->tX R cs ds
 |[],[],_,_=>trivial
 |[],_::_,h,_=>by simp at h
 |_::_,[],h,_=>by simp at h
 |c::cs,d::ds,h,k=>⟨k 0 c d rfl rfl,tX.H0 (f:=f) (g:=g) (by simpa using h) λj c d hc hd=>k (j+1) c d (by simpa using hc) (by simpa using hd)⟩
def X'{σ:St}{kp:Nat->Prop}{id:Nat}{bs:List Bool}(ho:σ.aa[id]?=some (.arr 1 (br bs)))(hk:¬ kp id):dU σ kp (.tree 1 (br bs)) (.ref id 1 0 bs.length) :=
 dU.mk ho (by simp[br]) hk (JT _) (tX.H0 (f:=λ_=>[]) (g:=λ_=>[]) rfl λj c d hc hd=>by
  rw[hc]at hd;cases hd;unfold br at hc;rw[bY]at hc;cases hb:bs[j]? with
  |none=>rw[hb]at hc;cases hc
  |some b=>rw[hb]at hc;simp only[im,cy.injEq]at hc;subst hc;exact⟨.lit _,trivial⟩)
theorem Ts{σ:St}{kp:Nat->Prop}{oi:Nat}{A:List (List AV)}{S:List (List Bool)}(ho:σ.aa[oi]?=some (.arr 1 A))(hk:¬ kp oi)(hA:A.length=S.length)(h:∀ j,j<S.length->∃ id,A[j]?=some [.ref id 1 0 (S.getD j default).length]/\σ.aa[id]?=some (.arr 1 (br (S.getD j default)))/\¬ kp id):dU σ kp (.tree 1 (rowsOf aE S)) (.ref oi 1 0 S.length) :=
 dU.mk ho hA.symm hk (pw _) (tX.H0 (f:=fun _=>[]) (g:=fun _=>[]) (by simp[rowsOf,hA]) fun j c d hc hd=>by
  unfold rowsOf at hc;rw[List.getElem?_map]at hc;have hj:j<S.length:=by
   cases hb:S[j]? with
   |none=>rw[hb]at hc;cases hc
   |some b=>exact(List.getElem?_eq_some_iff.1 hb).1
  obtain⟨id,h1,h2,h3⟩:=h j hj;rw[h1]at hd;simp only[Option.some.injEq]at hd;subst hd;rw[List.getElem?_eq_getElem hj]at hc;simp only[Option.map_some,Option.some.injEq]at hc;subst hc;have e2:S.getD j default=S[j]:=by rw[List.getD_eq_getElem?_getD,List.getElem?_eq_getElem hj];rfl
  rw[e2]at h2 ⊢;exact⟨X' h2 h3,trivial⟩)
end T

