import Derived.Test.YtfoopmojjjpapaaGreatX13
import Derived.Test.YtfoopmojjjpapaaGreatX14
set_option linter.all false
set_option maxHeartbeats 0
set_option maxRecDepth 20000
open List renaming mem_singleton→c8,take_zero→lZ,take_succ_eq_append_getElem→Ou,getD_eq_getElem?_getD→ax,getElem?_eq_getElem→bq,take_of_length_le→cZ,getElem?_eq_some_iff→aR,mem_append→cT,mem_map→bS,mem_iff_getElem→wg,getElem?_set_ne→fD,mem_cons→bm,map_cons→fP,cons_append→ek,nodup_cons→mJ,map_nil→ns,getElem?_cons_succ→r9,getD_cons_succ→fq,length→kC,getElem?_map→bV,getElem?_cons_zero→uW,getElem?_eq_none→fl,set_cons_succ→oY
open Nat renaming zero_le→aW,reduceBEq→rh,add_zero→iw
open And renaming intro→cQ
open Option renaming getD_none→Oa,isNone_none→Ox,getD_some→mI,map_some→gF,some→cy
open Go Go.Am Go.Proofs
namespace T
def ay(l:List Bool):List AV:=[.tree 1 (a8 l)]
instance:Row ay 1:=⟨λ_=>rfl,λl v hv=>by
 simp only[ay,c8]at hv;subst hv;exact .inr ⟨_,_,rfl⟩⟩
def HM:Hc Tryz.prog 211 (.map none):=⟨_,_,rfl,rfl,λw=>Od⟩
def ahI:Hc Tryz.prog 212 (.int .i64 0):=⟨_,_,rfl,rfl,λw=>Od⟩
def ahJ:Hb Tryz.prog 211:=⟨_,_,rfl,rfl⟩
def V0:Hb Tryz.prog 212:=⟨_,_,rfl,rfl⟩
def ahK:tu Tryz.prog 211:=⟨_,_,rfl⟩
def HN:tu Tryz.prog 212:=⟨_,_,rfl⟩
def agR(c:Ct)(left:List (List Bool))(n:Nat)(am0:left.length<=n)(hc:∀ x∈c.aZ,(0<=x.cls/\x.cls<left.length)/\1<=x.wt/\x.wt<=1000)(hl:left.length<=1000)(bE:∀ r∈left,r.length<=1000)(fY:c.aZ.length<9223372036854775808)(hm:0<=c.most)(hp:bJ c.cf):
  Holds Tryz.prog 117 [.agg (df c),.tree 1 (rowsOf ay left)] [] (Oi (im left c)) []:=by
 refine Holds.aN 80 0 [.tmp 4] Tryz.func117 ?_;refine afN ?_;repeat'(first|(((refine mr ?_);intro K hK) ;simp(disch:=omega)only[Ac,↓Pc,simprocAttr,Mc])|(refine hK _ _ ?_;clear hK K))
 refine UQ λb0 pG=>?_;repeat'(first|(((refine mr ?_);intro K hK) ;simp(disch:=omega)only[Ac,↓Pc,simprocAttr,Mc])|(with_reducible refine gO ?_;simp(disch:=omega)only[Ac,↓Pc,simprocAttr,Mc])|(refine hK _ _ ?_;clear hK K)|(refine pK ?_;intro Qb dJ eK e8)|(refine nQ ?_;intro Q hn he))
 refine Ha (λk:Nat=>(⟨ao [(1,.tree 1 (rowsOf ay left)),(2,.ptr 0 0 0),(5,.lit (.map (some b0))),(17,.tree 3 (rowsOf qC c.aZ)),(18,Oi c.aZ.length),(19,Oi k)],[.var (df c)]⟩:St))
  (λk m=>k<=c.aZ.length/\∃ A,GI left.length (c.aZ.take k) A b0 m) (λk=>c.aZ.length-k) 0 ⟨aW _,[],by rw[lZ];exact GI.nil (rN _ _ _)⟩ (by(refine kO.ao _ _ rfl ?_;simp only[Tc,↓reduceIte,Nat.reduceEqDiff,rh,Nat.reduceAdd];try trivial)) ?_
 rintro k m0⟨hk,A,hA⟩Ql ak au;by_cases bf:k<c.aZ.length
 ·have hx:=hc _ (aE (d:=default) bf);have gV:c.aZ.take (k+1)=c.aZ.take k++[c.aZ.getD k default]:=by
   rw[Ou bf,ax,bq bf];rfl
  generalize cS:c.aZ.getD k default=x at *;repeat'(first|(((refine mr ?_);intro K hK) ;simp(disch:=omega)only[Ac,↓Pc,simprocAttr,cS,Mc])|(refine hK _ _ ?_;clear hK K)|(refine mc (λht=>?_) (λht=>?_)<;>(try simp only[gI,simprocAttr]at ht))|refine oK rfl ?_|(refine pK ?_;intro Qb dJ eK e8)|(refine nQ ?_;intro Q hn he)|((first|refine hn _ _ ?_|refine he _ _ _ rfl ?_);clear hn he;try clear Q)|with_reducible refine cQ ?_ ?_|omega)
  have fin:∀ A1 m1,GI left.length (c.aZ.take k) A1 b0 m1->(∃ e∈A1,e.1=x.cls)->∃ e∈A1,e.1=x.cls/\nh x.cls (gE A1)=some (.map (some e.2.1)):=λA1 m1 h1 h2=>by
   rcases KZ x.cls A1 with⟨_,g⟩|g
   ·obtain⟨e,he,hh⟩:=h2;exact absurd hh (g e he)
   ·exact g
  rcases KZ x.cls A with⟨g1,g2⟩|⟨e0,g1,g2,g3⟩
  ·refine D1 (by simp only[Kc,simprocAttr]<;>exact rfl) (by simp only[Kc,simprocAttr]<;>exact rfl) HM hA.top ?_;rw[g1];repeat'(first|(((refine qU ?_);intro K hK) ;simp(disch:=omega)only[Ac,↓Pc,simprocAttr,HN,Oa,Ox,Mc])|(with_reducible refine gO ?_;simp(disch:=omega)only[Ac,↓Pc,simprocAttr,HN,Oa,Ox,Mc])|(refine hK _ _ ?_;clear hK K)|(refine mc (λht=>?_) (λht=>?_)<;>(try simp only[gI,simprocAttr]at ht)))
   refine UQ λb hb=>?_;(with_reducible refine gO ?_;simp(disch:=omega)only[Ac,↓Pc,simprocAttr,Mc])
   refine Lm (by simp only[Kc,simprocAttr]<;>exact rfl) (by simp only[Kc,simprocAttr]<;>exact rfl) (by simp only[Kc,simprocAttr]<;>exact rfl) ahJ (by rw[pH _ _ (λe=>by rw[<- e,hA.top]at hb;cases hb)];exact hA.top) ?_;have rW:=hA.new hx.1 g2 hb;obtain⟨e1,k1,k2,k3⟩:=fin _ _ rW ⟨(x.cls,b,[]),IM,rfl⟩;repeat'(first|(((refine qU ?_);intro K hK) ;simp(disch:=omega)only[Ac,↓Pc,simprocAttr,cS,Mc])|(refine hK _ _ ?_;clear hK K)|((refine hn _ _ ?_);clear hn he;try clear Q))
   refine D1 (by simp only[Kc,simprocAttr]<;>exact rfl) (by simp only[Kc,simprocAttr]<;>exact rfl) HM rW.top ?_;rw[k3];(with_reducible refine gO ?_;simp(disch:=omega)only[Ac,↓Pc,simprocAttr,cS,mI,Mc])
   refine Lm (by simp only[Kc,simprocAttr]<;>exact rfl) (by simp only[Kc,simprocAttr]<;>exact rfl) (by simp only[Kc,simprocAttr]<;>exact rfl) V0 (rW.sub e1 k1) ?_;repeat'(first|(((refine qU ?_);intro K hK) ;simp(disch:=omega)only[Ac,↓Pc,simprocAttr,Mc])|(refine hK _ _ ?_;clear hK K)|((refine hn _ _ ?_);clear hn he;try clear Q)|((refine dJ _ _ ?_);clear dJ eK e8;try clear Qb)|with_reducible refine cQ ?_ ?_|omega)
   exact ak _ _ (k+1) ⟨AT,_,by rw[gV];exact rW.put k1 k2⟩ AT (by(refine kO.se [0] false (by simp only[Oc,simprocAttr]) ?_;simp only[Hr,↓reduceIte,Nat.reduceEqDiff,rh,Nat.reduceAdd];try(and_intros<;>first|exact .pure rfl|exact .eq rfl|exact .fz rfl (by simp only[Bc,Rc]))))
  ·refine D1 (by simp only[Kc,simprocAttr]<;>exact rfl) (by simp only[Kc,simprocAttr]<;>exact rfl) HM hA.top ?_;rw[g3];repeat'(first|(((refine qU ?_);intro K hK) ;simp(disch:=omega)only[Ac,↓Pc,simprocAttr,HN,mI,Option.isNone_some,Mc])|(with_reducible refine gO ?_;simp(disch:=omega)only[Ac,↓Pc,simprocAttr,HN,mI,Option.isNone_some,Mc])|(refine hK _ _ ?_;clear hK K)|(refine mc (λht=>?_) (λht=>?_)<;>(try simp only[gI,simprocAttr]at ht))|refine oK rfl ?_|((refine hn _ _ ?_);clear hn he;try clear Q))
   refine D1 (by simp only[Kc,simprocAttr]<;>exact rfl) (by simp only[Kc,simprocAttr]<;>exact rfl) HM hA.top ?_;rw[g3];(with_reducible refine gO ?_;simp(disch:=omega)only[Ac,↓Pc,simprocAttr,cS,mI,Mc])
   refine Lm (by simp only[Kc,simprocAttr]<;>exact rfl) (by simp only[Kc,simprocAttr]<;>exact rfl) (by simp only[Kc,simprocAttr]<;>exact rfl) V0 (hA.sub e0 g1) ?_;repeat'(first|(((refine qU ?_);intro K hK) ;simp(disch:=omega)only[Ac,↓Pc,simprocAttr,Mc])|(refine hK _ _ ?_;clear hK K)|((refine hn _ _ ?_);clear hn he;try clear Q)|((refine dJ _ _ ?_);clear dJ eK e8;try clear Qb)|with_reducible refine cQ ?_ ?_|omega)
   exact ak _ _ (k+1) ⟨AT,_,by rw[gV];exact hA.put g1 g2⟩ AT (by(refine kO.se [0] false (by simp only[Oc,simprocAttr]) ?_;simp only[Hr,↓reduceIte,Nat.reduceEqDiff,rh,Nat.reduceAdd];try(and_intros<;>first|exact .pure rfl|exact .eq rfl|exact .fz rfl (by simp only[Bc,Rc]))))
 ·rw[cZ AT]at hA;repeat'(first|(((refine mr ?_);intro K hK) ;simp(disch:=omega)only[Ac,↓Pc,simprocAttr,Mc])|(refine hK _ _ ?_;clear hK K)|(refine mc (λht=>?_) (λht=>?_)<;>(try simp only[gI,simprocAttr]at ht))|refine oK rfl ?_|(refine pK ?_;intro Qb dJ eK e8)|(refine nQ ?_;intro Q hn he)|((first|refine hn _ _ ?_|refine he _ _ _ rfl ?_);clear hn he;try clear Q)|with_reducible refine cQ ?_ ?_|omega)
  refine au _ _ _ rfl ?_;clear ak au Ql;repeat(first|((refine hn _ _ ?_);clear hn he;try clear Q)|((refine eK _ _ ?_);clear dJ eK e8;try clear Qb))
  repeat'(first|(((refine mr ?_);intro K hK) ;simp(disch:=omega)only[Ac,↓Pc,simprocAttr,Mc])|(refine hK _ _ ?_;clear hK K)|(refine nQ ?_;intro Q hn he))
  have hcA:=hA.qO;have El:=hA.sum;have yH:∀ x∈c.aZ,1<=x.wt/\x.wt<=1000:=λx hx=>(hc x hx).2;have ot:=DJ yH left;generalize hf:(λj:Nat=>jR c.aZ (A.getD j (0,0,[])).1 (left.getD (A.getD j (0,0,[])).1.toNat []))=f;have Br:∀ j,jR c.aZ (A.getD j (0,0,[])).1 (left.getD (A.getD j (0,0,[])).1.toNat [])=f j:=λj=>by rw[<- hf]
  have ef:∀ j,0<=f j/\f j<=1000:=λj=>by rw[<- Br];exact Te yH _ _
  have hAl:A.length<=left.length:=hA.len;refine af0 (by simp only[Kc,simprocAttr]<;>exact rfl) ahK hA.top λr hr=>?_;repeat'(first|(refine hK _ _ ?_;clear hK K)|(refine pK ?_;intro Qb dJ eK e8))
  refine Ha (λseen:List Nat=>(⟨ao [(1,.tree 1 (rowsOf ay left)),(2,.ptr 0 0 0),(8,Oi (vC f seen A.length)),(42,.lit (.pointer (some ⟨r,0,none⟩)))],[.var (df c)]⟩:St))
   (λseen m=>GI left.length c.aZ A b0 m/\m r=some (.iter b0 A.length seen)) (λseen=>DR seen A.length) [] ⟨hA.other _ (λl=>by rw[hr];simp),by rw[rN,G2]⟩ (by(refine kO.ao _ _ rfl ?_;simp only[Tc,↓reduceIte,Nat.reduceEqDiff,rh,Nat.reduceAdd,afy];try trivial)) ?_
  rintro seen m1⟨rW,j7⟩Ql ak au;(((refine mr ?_);intro K hK) ;simp(disch:=omega)only[Ac,↓Pc,simprocAttr,Mc])
  refine af2 (b:=b0) (seen:=seen) (ents:=iE (gE A)) (by simp only[Kc,simprocAttr]<;>exact rfl) (by rw[G2];exact j7) rW.top (λeT=>?_) (λj p hp hj=>?_)
  ·rw[G2]at eT;rw[afx eT,<- hf,Tl (λc'=>jR c.aZ c' (left.getD c'.toNat [])),El];repeat'(first|(with_reducible refine gO ?_;simp(disch:=omega)only[Ac,↓Pc,simprocAttr,Mc])|(refine hK _ _ ?_;clear hK K)|(refine mc (λht=>?_) (λht=>?_)<;>(try simp only[gI,simprocAttr]at ht))|refine oK rfl ?_|(refine nQ ?_;intro Q hn he)|((refine he _ _ _ rfl ?_);clear hn he;try clear Q))
   refine au _ _ _ rfl ?_;clear ak au Ql;repeat(first|((refine hn _ _ ?_);clear hn he;try clear Q)|((refine eK _ _ ?_);clear dJ eK e8;try clear Qb))
   repeat'(first|(((refine mr ?_);intro K hK) ;simp(disch:=omega)only[Ac,↓Pc,simprocAttr,Mc])|(refine bX (ahM c (jS c.aZ 0 left 0) hm AT ot.1 hp) rfl rfl ?_)|(refine hK _ _ ?_;clear hK K)|refine oK rfl ?_)
   refine Xe ?_;first|refine aU rfl ?_|refine Xl ?_ ?_
   rfl
  ·rw[Tm,Tn]at hp;cases he:A[j]? with
   |none=>rw[he]at hp;simp at hp
   |some e =>
    rw[he]at hp;simp only[gF,cy.injEq]at hp;subst hp;have gy:=(aR.1 he).1;have Hn:A.getD j (0,0,[])=e:=by rw[ax,he];rfl
    have HO:e∈A:=List.mem_of_getElem? he;obtain⟨mj,kH⟩:=hcA e HO;have V3:=Br j;rw[Hn]at V3;have hval:=rW.val e HO;have ahN:=rW.sub e HO;have cF:=bE _ (aE (l:=left) (i:=e.1.toNat) (d:=[]) AT);have V4:=afz (f:=f) (B:=1000) (seen:=seen) (n:=A.length) AT λi _=>ef i;have dm:=afw (f:=f) gy hj;have aS:=Tk gy hj;generalize w0:left.getD e.1.toNat []=row at *;have V5:left.getD e.1.toNat default=row:=w0;repeat'(first|(((refine mr ?_);intro K hK) ;simp(disch:=omega)only[Ac,↓Pc,simprocAttr,Mc])|(with_reducible refine gO ?_;simp(disch:=omega)only[Ac,↓Pc,simprocAttr,Mc])|(refine hK _ _ ?_;clear hK K)|(refine mc (λht=>?_) (λht=>?_)<;>(try simp only[gI,simprocAttr]at ht))|refine oK rfl ?_|(refine pK ?_;intro Qb dJ eK e8)|(refine nQ ?_;intro Q hn he)|((refine hn _ _ ?_);clear hn he;try clear Q))
    refine af5 (seen:=seen) (j:=j) (b:=b0) (ents:=iE (gE A)) (q:=(.int .i64 e.1,.map (some e.2.1))) (by simp only[Kc,simprocAttr]<;>exact rfl) (rN _ _ _) (by rw[pH _ _ (λe2=>by rw[<- e2,rW.top]at j7;cases j7)];exact rW.top) (by rw[Tm,Tn,he];rfl) ?_;repeat'(first|(((refine mr ?_);intro K hK) ;simp(disch:=omega)only[Ac,↓Pc,simprocAttr,V5,ay,Mc])|(with_reducible refine gO ?_;simp(disch:=omega)only[Ac,↓Pc,simprocAttr,V5,ay,Mc])|(refine hK _ _ ?_;clear hK K)|(refine pK ?_;intro Qb dJ eK e8)|(refine nQ ?_;intro Q hn he)|with_reducible refine cQ ?_ ?_|omega)
    generalize uO:gT m1 r (.iter b0 (iE (gE A)).length (seen++[j]))=m2;have gz:m2 r=some (.iter b0 A.length (seen++[j])):=by rw[<- uO,rN,G2]
    have yJ:GI left.length c.aZ A b0 m2:=by rw[<- uO];exact rW.other _ λl=>by rw[j7];simp
    have ahO:=yJ.sub e HO;clear ahN;refine Ha (λo:Nat=>(⟨ao [(1,.tree 1 (rowsOf ay left)),(2,.ptr 0 0 0),(8,Oi (vC f seen A.length)),(42,.lit (.pointer (some ⟨r,0,none⟩))),(10,.lit (.map (some e.2.1))),(11,Oi (dD c.aZ e.1 0 (row.take o) (-1))),(51,.tree 1 (a8 row)),(52,Oi row.length),(53,Oi o)],[.var (df c)]⟩:St))
     (λo m=>o<=row.length/\m=m2) (λo=>row.length-o) 0 ⟨aW _,rfl⟩ (by(refine kO.ao _ _ rfl ?_;simp only[Tc,↓reduceIte,Nat.reduceEqDiff,rh,Nat.reduceAdd,lZ,dD];try trivial)) ?_
    rintro o m3⟨ho,rfl⟩dL bO bQ;have hb:=G0 yH e.1 (row.take o) 0 (-1) AT;by_cases cJ:o<row.length
    ·have gV:dD c.aZ e.1 0 (row.take (o+1)) (-1)=if row.getD o false=true/\(dD c.aZ e.1 0 (row.take o) (-1)<0\/fj c.aZ e.1 o 0<dD c.aZ e.1 0 (row.take o) (-1)) then fj c.aZ e.1 o 0 else dD c.aZ e.1 0 (row.take o) (-1):=by
      rw[Ou cJ,K3,ax,bq cJ,List.length_take,Nat.min_eq_left AT,Nat.zero_add];rfl
     have hw:=yq yH e.1 o 0 AT;have hv:=hval o;generalize dD c.aZ e.1 0 (row.take o) (-1)=b at *;generalize fj c.aZ e.1 o 0=w at *;generalize Ai:row.getD o false=is at *;repeat'(first|(((refine mr ?_);intro K hK) ;simp(disch:=omega)only[Ac,↓Pc,simprocAttr,Ai,Mc])|(refine hK _ _ ?_;clear hK K)|(refine mc (λht=>?_) (λht=>?_)<;>(try simp only[gI,simprocAttr]at ht))|refine oK rfl ?_|(refine pK ?_;intro Qb dJ eK e8)|(refine nQ ?_;intro Q hn he)|((first|refine hn _ _ ?_|refine he _ _ _ rfl ?_);clear hn he;try clear Q)|with_reducible refine cQ ?_ ?_|omega)
     refine D1 (by simp only[Kc,simprocAttr]<;>exact rfl) (by simp only[Kc,simprocAttr]<;>exact rfl) ahI ahO ?_;rw[Tg,hv];repeat'(first|(((first|refine mr ?_|refine qU ?_);intro K hK) ;simp(disch:=omega)only[Ac,↓Pc,simprocAttr,Ai,Mc])|(with_reducible refine gO ?_;simp(disch:=omega)only[Ac,↓Pc,simprocAttr,Ai,Mc])|(refine hK _ _ ?_;clear hK K)|(with_reducible refine gS (λaY=>?_) (λaY=>?_)<;>(have hb:=aY;(try simp only[gI,simprocAttr]at hb);simp(disch:=omega)only[Ac,↓Pc,simprocAttr,Ai,Mc,aY];clear aY))|(refine mc (λht=>?_) (λht=>?_)<;>(try simp only[gI,simprocAttr]at ht))|refine oK rfl ?_|((refine hn _ _ ?_);clear hn he;try clear Q)|((refine dJ _ _ ?_);clear dJ eK e8;try clear Qb)|with_reducible refine cQ ?_ ?_|omega)
     all_goals
      refine bO _ _ (o+1) ⟨AT,rfl⟩ AT ?_;simp only[gV];first
       |rw[if_pos ⟨by assumption,AT⟩]
       |rw[if_neg (by rintro⟨h1,h2⟩;first|omega|(simp only[h1]at *;contradiction)|simp_all)]
      (refine kO.ao _ _ rfl ?_;simp only[Tc,↓reduceIte,Nat.reduceEqDiff,rh,Nat.reduceAdd];try trivial)
    ·rw[cZ AT]at hb;have jy:max (dD c.aZ e.1 0 row (-1)) 0=f j:=V3;repeat'(first|(((refine mr ?_);intro K hK) ;simp(disch:=omega)only[Ac,↓Pc,simprocAttr,cZ (show row.length<=o by omega),Mc])|(refine hK _ _ ?_;clear hK K)|(refine mc (λht=>?_) (λht=>?_)<;>(try simp only[gI,simprocAttr]at ht))|refine oK rfl ?_|(refine pK ?_;intro Qb dJ eK e8)|(refine nQ ?_;intro Q hn he)|((first|refine hn _ _ ?_|refine he _ _ _ rfl ?_);clear hn he;try clear Q)|with_reducible refine cQ ?_ ?_|omega)
     refine bQ _ _ _ rfl ?_;clear bO bQ dL;repeat(first|((refine hn _ _ ?_);clear hn he;try clear Q)|((refine eK _ _ ?_);clear dJ eK e8;try clear Qb))
     repeat'(first|(((refine qU ?_);intro K hK) ;simp(disch:=omega)only[Ac,↓Pc,simprocAttr,Mc])|(refine hK _ _ ?_;clear hK K)|((refine dJ _ _ ?_);clear dJ eK e8;try clear Qb)|with_reducible refine cQ ?_ ?_|omega)
     exact ak _ _ (seen++[j]) ⟨yJ,gz⟩ aS (by simp only[dm,<- jy];(refine kO.ao _ _ rfl ?_;simp only[Tc,↓reduceIte,Nat.reduceEqDiff,rh,Nat.reduceAdd];try trivial))
def uP(q:Nat×Nat):List AV:=[.ref q.1 1 0 q.2]
def V6(D:List (Nat×Nat))(p n:Nat):rowsOf uP D++[[AV.ref p 1 0 n]]=rowsOf uP (D++[(p,n)]):=by simp[rowsOf,uP]
structure ec(B:List (Nat×Ob))(D:List (Nat×Nat))(S:List (List Bool))(os:List Ob):Prop where
 base:∀ b∈B,os[b.1]?=some b.2
 len:D.length=S.length
 row:∀ j,j<D.length->os[(D.getD j default).1]?=some (.arr 1 (a8 (S.getD j default)))/\(S.getD j default).length=(D.getD j default).2
 nd:(B.map (·.1)++D.map (·.1)).Nodup
section
variable {B:List (Nat×Ob)} {D:List (Nat×Nat)} {S:List (List Bool)} {os:List Ob}
def ec.app(h:ec B D S os)(l:List Ob):ec B D S (os++l):=⟨λb hb=>aK (h.base b hb) l,h.len,λj hj=>⟨aK (h.row j hj).1 l,(h.row j hj).2⟩,h.nd⟩
def ec.fresh(h:ec B D S os){p:Nat}(hp:os.length<=p):p ∉ B.map (·.1)++D.map (·.1):=λhh=>by
 rw[cT]at hh;rcases hh with hh|hh
 ·obtain⟨q,hq,rfl⟩:=bS.1 hh;have:=(aR.1 (h.base q hq)).1;omega
 ·obtain⟨q,hq,rfl⟩:=bS.1 hh;obtain⟨k,hk,rfl⟩:=wg.1 hq;have h1:=(h.row k hk).1;have a1:D.getD k default=D[k]:=by simp[hk]
  rw[a1]at h1;have:=(aR.1 h1).1;omega
def ec.other(h:ec B D S os){i:Nat}(hi:i ∉ B.map (·.1)++D.map (·.1))(y:Ob):ec B D S (os.set i y):=by
 rw[cT,not_or]at hi;refine⟨λb hb=>?_,h.len,λk hk=>⟨?_,(h.row k hk).2⟩,h.nd⟩
 ·rw[fD (λe=>hi.1 (bS.2 ⟨b,hb,e.symm⟩))];exact h.base b hb
 ·rw[fD (λe=>hi.2 (bS.2 ⟨D.getD k default,aE hk,e.symm⟩))];exact(h.row k hk).1
def ec.add(h:ec B D S os){k:Nat}{x:Ob}(hk:os[k]?=some x)(hf:k ∉ B.map (·.1)++D.map (·.1)):ec ((k,x)::B) D S os :=
 ⟨λb hb=>by rcases bm.1 hb with rfl|hb;exact hk;exact h.base b hb,h.len,h.row,by
  rw[fP,ek,mJ];exact⟨hf,h.nd⟩⟩
def ec.b0{a:Nat×Ob}(h:ec (a::B) D S os):os[a.1]?=some a.2:=h.base a IM
def ec.b1{a b:Nat×Ob}(h:ec (a::b::B) D S os):os[b.1]?=some b.2:=h.base b IM
def ec.b2{a b c:Nat×Ob}(h:ec (a::b::c::B) D S os):os[c.1]?=some c.2:=h.base c IM
def ec.b3{a b c d:Nat×Ob}(h:ec (a::b::c::d::B) D S os):os[d.1]?=some d.2:=h.base d IM
def ec.start(x y:Ob):ec [(0,x),(2,.arr 1 []),(1,y)] [] [] [x,y,.arr 1 []]:=⟨IM,rfl,IM,(show([0,2,1]:List Nat).Nodup by decide)⟩
def ec.put{i:Nat}{x:Ob}(h:ec ((i,x)::B) D S os)(y:Ob):ec ((i,y)::B) D S (os.set i y):=by
 have hn:=h.nd;rw[fP,ek,mJ]at hn;have hx:=h.base (i,x) IM;have h2:ec B D S os:=⟨λb hb=>h.base b (by simp[hb]),h.len,h.row,hn.2⟩;exact(h2.other hn.1 y).add (lS hx) hn.1
def ec.drop{i:Nat}{x:Ob}(h:ec ((i,x)::B) D S os):ec B D S os/\i ∉ B.map (·.1)++D.map (·.1):=by
 have hn:=h.nd;rw[fP,ek,mJ]at hn;exact⟨⟨λb hb=>h.base b (by simp[hb]),h.len,h.row,hn.2⟩,hn.1⟩
def ec.swap{a b:Nat×Ob}(h:ec (a::b::B) D S os):ec (b::a::B) D S os :=
 ⟨λc hc=>h.base c (by simp only[bm]at hc ⊢;rcases hc with hc|hc|hc<;>simp[hc]),h.len,h.row,by
  have:=h.nd;simp only[fP,ek,mJ,bm,not_or]at this ⊢;exact⟨⟨Ne.symm this.1.1,this.2.1⟩,this.1.2,this.2.2⟩⟩
def ec.snoc{p:Nat}{r:List Bool}(h:ec ((p,.arr 1 (a8 r))::B) D S os):ec B (D++[(p,r.length)]) (S++[r]) os:=by
 obtain⟨h2,hf⟩:=h.drop;have hp:=h.base (p,.arr 1 (a8 r)) IM;refine⟨h2.base,by simp[h2.len],λj hj=>?_,?_⟩
 ·rw[G4,G4,<- h2.len];by_cases h1:j<D.length
  ·rw[if_pos h1,if_pos h1];exact h2.row j h1
  ·have:j=D.length:=by simp at hj;omega
   rw[if_neg h1,if_neg h1,if_pos this,if_pos this];exact⟨hp,rfl⟩
 ·rw[List.map_append,<- List.append_assoc,List.nodup_append];refine⟨h2.nd,IM,λa ha b hb=>?_⟩;simp only[fP,ns,c8]at hb;subst hb;exact λe=>hf (e▸ha)
end
def jQ(p:Nat):List (List Bool)->List (List AV)
 |[]=>[]
 |r::t=>[.ref p 1 0 r.length]::jQ (p+1) t
def tD(S:List (List Bool)):List Ob:=S.map λr=>.arr 1 (a8 r)
def HP(S:List (List Bool)):(tD S).length=S.length:=List.length_map _
def Dq:∀ (p:Nat) (S:List (List Bool)),(jQ p S).length=S.length
 |_,[]=>rfl
 |p,r::t=>by simp only[jQ,List.length_cons,Dq (p+1) t]
def Dp:∀ (p:Nat) (S:List (List Bool)) (j:Nat),j<S.length->(jQ p S)[j]?=some [.ref (p+j) 1 0 (S.getD j default).length]
 |_,[],j,h=>by simp at h
 |p,r::t,0,h=>rfl
 |p,r::t,j+1,h=>by
  rw[jQ,r9,Dp (p+1) t j (by simpa using h)];rw[show p+1+j=p+(j+1) by omega,fq]
def aet{S T:List (List Bool)}(p:Nat)(h:S.map kC=T.map kC):jQ p S=jQ p T:=by
 induction S generalizing T p with
 |nil=>cases T with
  |nil=>rfl
  |cons=>simp at h
 |cons r S ih=>cases T with
  |nil=>simp at h
  |cons t T =>
   simp only[fP,List.cons.injEq]at h;rw[jQ,jQ,h.1,ih (p+1) h.2]
def aek(ρ:Nat->Nat)(S:List (List Bool)):∀ (q p:Nat),(∀ j,j<S.length->ρ (p+j)=q+j)->(jQ p S).map (List.map (bj ρ))=jQ q S:=by
 induction S with
 |nil=>intro q p _;rfl
 |cons r t ih =>
  intro q p h;have h0:=h 0 IM;rw[iw,iw]at h0;rw[jQ,jQ,fP,fP,ns,bj,h0];refine congrArg _ (ih (q+1) (p+1) λj hj=>?_);have:=h (j+1) (by simpa using hj);rw[show p+1+j=p+(j+1) by omega,this];omega
def aep(ρ:Nat->Nat)(S:List (List Bool)):(tD S).map (bM ρ)=tD S:=by
 unfold tD;rw[List.map_map];refine List.map_congr_left λr _=>?_;show bM ρ (.arr 1 (a8 r))=_;exact A6 _ _ _
def V7{B:List (Nat×Ob)}{D:List (Nat×Nat)}{S:List (List Bool)}{os:List Ob}(h:ec B D S os){j:Nat}(hj:j<S.length):(rowsOf uP D)[j]?=some [.ref (D.getD j default).1 1 0 (S.getD j default).length]:=by
 have hd:=h.len;have h2:=(h.row j AT).2;rw[h2];unfold rowsOf;rw[bV,ax,bq AT];rfl
def ec.ret{D:List (Nat×Nat)}{S:List (List Bool)}{os:List Ob}{x:Ob}{oi:Nat}(h:ec [(0,x),(oi,.arr 1 (rowsOf uP D))] D S os)(hx:∀ ρ,bM ρ x=x)(hg:x≠.gone)(e:Nat->AV):
  nD 1 ⟨e,os⟩ (.ref oi 1 0 S.length) (.ref 1 1 0 S.length) (x::.arr 1 (jQ 2 S)::tD S):=by
 have hd:=h.len;have h0:=h.base (0,x) IM;have h1:=h.base (oi,.arr 1 (rowsOf uP D)) IM;dsimp only at h0 h1;have hl:∀ i∈0::oi::D.map (·.1),i<os.length:=λi hi=>by
  rcases bm.1 hi with rfl|hi
  ·exact(aR.1 h0).1
  rcases bm.1 hi with rfl|hi
  ·exact(aR.1 h1).1
  obtain⟨q,hq,rfl⟩:=bS.1 hi;obtain⟨k,hk,rfl⟩:=wg.1 hq;have h3:=(h.row k hk).1;have a1:D.getD k default=D[k]:=by simp[hk]
  rw[a1]at h3;exact(aR.1 h3).1
 have Mk:∀ j,j<S.length->bC os.length (0::oi::D.map (·.1)) (2+j)=(D.getD j default).1:=λj hj=>by
  unfold bC;rw[if_pos N0,show 2+j=j+1+1 by omega,fq,fq,ax,bV,ax,bq AT];rfl
 refine⟨0::oi::D.map (·.1),false,by simpa using h.nd,by simp[HP,hd],λj o hj=>.inr ?_,hl,IM,λi hi=>?_,.eq ?_⟩
 ·match j with
  |0 =>
   simp only[uW,cy.injEq]at hj;subst hj;rw[hx];exact h0
  |1 =>
   simp only[r9,uW,cy.injEq]at hj;subst hj;refine h1.trans (congrArg some ?_);rw[bM];refine congrArg _ (List.ext_getElem? λi=>?_);rw[bV];by_cases hi:i<S.length
   ·rw[V7 h hi,Dp 2 S i hi,gF,fP,ns,bj,Mk i hi]
   ·rw[fl (by simp[rowsOf];omega),fl (by rw[Dq];omega)];rfl
  |j+2 =>
   simp only[r9]at hj;have gy:j<S.length:=by have:=(aR.1 hj).1;rwa [HP]at this
   have h3:=(h.row j AT).1;unfold tD at hj;rw[bV,bq gy]at hj;simp only[gF,cy.injEq]at hj;subst hj;rw[A6];have e1:(0::oi::D.map (·.1)).getD (j+2) 0=(D.getD j default).1:=by
    rw[fq,fq,ax,bV,ax,bq AT];rfl
   have e2:S.getD j default=S[j]:=by rw[ax,bq gy];rfl
   rw[e1,<- e2];exact h3
 ·have:i=0:=AT;subst this;rfl
 ·rw[bj];have:bC os.length (0::oi::D.map (·.1)) 1=oi:=by unfold bC;rw[if_pos IM];rfl
  rw[this]
def nO(x:Ob)(A:List (List AV))(Y:List (List Bool)):List Ob:=x::.arr 1 A::tD Y
def nOk(x:Ob)(A:List (List AV)){Y:List (List Bool)}{i:Nat}(h:i<Y.length):(nO x A Y)[2+i]?=some (.arr 1 (a8 (Y.getD i default))):=by
 unfold nO;rw[show 2+i=i+1+1 by omega,r9,r9];unfold tD;rw[bV,ax,bq h];rfl
def nOs(x:Ob)(A:List (List AV))(Y:List (List Bool))(i:Nat)(r:List Bool):(nO x A Y).set (2+i) (.arr 1 (a8 r))=nO x A (Y.set i r):=by
 unfold nO tD;rw[show 2+i=i+1+1 by omega,oY,oY,List.map_set]
def pf.Em{R:AV->AV->Prop}{f:Nat->List AV}{g:Nat->List AV}:∀ {cs ds:List (List AV)},cs.length=ds.length->(∀ (j:Nat) c d,cs[j]?=some c->ds[j]?=some d->mf R c d)->pf R cs ds
 |[],[],_,_=>trivial
 |[],_::_,h,_=>by simp at h
 |_::_,[],h,_=>by simp at h
 |c::cs,d::ds,h,k=>⟨k 0 c d rfl rfl,pf.Em (f:=f) (g:=g) (by simpa using h) λj c d hc hd=>k (j+1) c d (by simpa using hc) (by simpa using hd)⟩
def V8{σ:St}{kp:Nat->Prop}{id:Nat}{bs:List Bool}(ho:σ.aa[id]?=some (.arr 1 (a8 bs)))(hk:¬ kp id):dF σ kp (.tree 1 (a8 bs)) (.ref id 1 0 bs.length) :=
 dF.mk ho (by simp[a8]) hk (Jo _) (pf.Em (f:=λ_=>[]) (g:=λ_=>[]) rfl λj c d hc hd=>by
  rw[hc]at hd;cases hd;unfold a8 at hc;rw[bV]at hc;cases hb:bs[j]? with
  |none=>rw[hb]at hc;cases hc
  |some b=>rw[hb]at hc;simp only[gF,cy.injEq]at hc;subst hc;exact⟨.lit _,trivial⟩)
theorem aew{σ:St}{kp:Nat->Prop}{oi:Nat}{A:List (List AV)}{S:List (List Bool)}(ho:σ.aa[oi]?=some (.arr 1 A))(hk:¬ kp oi)(hA:A.length=S.length)(h:∀ j,j<S.length->∃ id,A[j]?=some [.ref id 1 0 (S.getD j default).length]/\σ.aa[id]?=some (.arr 1 (a8 (S.getD j default)))/\¬ kp id):dF σ kp (.tree 1 (rowsOf ay S)) (.ref oi 1 0 S.length) :=
 dF.mk ho hA.symm hk (kI _) (pf.Em (f:=fun _=>[]) (g:=fun _=>[]) (by simp[rowsOf,hA]) fun j c d hc hd=>by
  unfold rowsOf at hc;rw[List.getElem?_map]at hc;have hj:j<S.length:=by
   cases hb:S[j]? with
   |none=>rw[hb]at hc;cases hc
   |some b=>exact(List.getElem?_eq_some_iff.1 hb).1
  obtain⟨id,h1,h2,h3⟩:=h j hj;rw[h1]at hd;simp only[Option.some.injEq]at hd;subst hd;rw[List.getElem?_eq_getElem hj]at hc;simp only[Option.map_some,Option.some.injEq]at hc;subst hc;have e2:S.getD j default=S[j]:=by rw[List.getD_eq_getElem?_getD,List.getElem?_eq_getElem hj];rfl
  rw[e2]at h2 ⊢;exact⟨V8 h2 h3,trivial⟩)
end T

