import Derived.Test.YtfoopmojjjpapaaGreatX18
set_option linter.all false
set_option maxHeartbeats 0
set_option maxRecDepth 20000
open Nat renaming zero_le→aP,reduceBEq→s6
open List renaming take_zero→mu,take_succ_eq_append_getElem→QW,getD_eq_getElem?_getD→ay,getElem?_eq_getElem→bx,take_of_length_le→dt
open And renaming intro→cD
open Option renaming getD_none→He,isNone_none→QX,getD_some→lR
open Go Go.Am Go.Proofs
namespace T
def aA(l:List Bool):List AV:=[.tree 1 (aV l)]
instance:Row aA 1:=⟨λ_=>rfl,λl v hv=>by
 simp only[aA,List.mem_singleton]at hv;subst hv;exact .inr ⟨_,_,rfl⟩⟩
def Jk:IE Tryz.prog 211 (.map none):=⟨_,_,rfl,rfl,λw=>QI⟩
def akg:IE Tryz.prog 212 (.int .i64 0):=⟨_,_,rfl,rfl,λw=>QI⟩
def akh:IF Tryz.prog 211:=⟨_,_,rfl,rfl⟩
def abg:IF Tryz.prog 212:=⟨_,_,rfl,rfl⟩
def aki:u3 Tryz.prog 211:=⟨_,_,rfl⟩
def Jl:u3 Tryz.prog 212:=⟨_,_,rfl⟩
def ajv(c:Ct)(left:List (List Bool))(n:Nat)(aqD:left.length<=n)(hc:∀ x∈c.bd,(0<=x.cls/\x.cls<left.length)/\1<=x.wt/\x.wt<=1000)(hl:left.length<=1000)(bK:∀ r∈left,r.length<=1000)(eY:c.bd.length<9223372036854775808)(hm:0<=c.most)(hp:bX c.cA):
  Holds Tryz.prog 117 [.agg (dz c),.tree 1 (rowsOf aA left)] [] (QM (ju left c)) []:=by
 refine Holds.aM 80 0 [.tmp 4] Tryz.func117 ?_;refine aiQ ?_;repeat'(first|(((refine mr ?_);intro K hK) ;simp(disch:=omega)only[Ac,↓Pc,simprocAttr,Mc])|(refine hK _ _ ?_;clear hK K))
 refine ZF λb0 l9=>?_;repeat'(first|(((refine mr ?_);intro K hK) ;simp(disch:=omega)only[Ac,↓Pc,simprocAttr,Mc])|(with_reducible refine gO ?_;simp(disch:=omega)only[Ac,↓Pc,simprocAttr,Mc])|(refine hK _ _ ?_;clear hK K)|(refine q6 ?_;intro Qb dR fl gk)|(refine oG ?_;intro Q hn he))
 refine IK (λk:Nat=>(⟨ar [(1,.tree 1 (rowsOf aA left)),(2,.ptr 0 0 0),(5,.lit (.map (some b0))),(17,.tree 3 (rowsOf rX c.bd)),(18,QM c.bd.length),(19,QM k)],[.var (dz c)]⟩:St))
  (λk m=>k<=c.bd.length/\∃ A,GI left.length (c.bd.take k) A b0 m) (λk=>c.bd.length-k) 0 ⟨aP _,[],by rw[mu];exact GI.nil (tB _ _ _)⟩ (by(refine l8.ar _ _ rfl ?_;simp only[Tc,↓reduceIte,Nat.reduceEqDiff,s6,Nat.reduceAdd];try trivial)) ?_
 rintro k m0⟨hk,A,hA⟩Ql ak aq;by_cases bj:k<c.bd.length
 ·have hx:=hc _ (aF (d:=default) bj);have ik:c.bd.take (k+1)=c.bd.take k++[c.bd.getD k default]:=by
   rw[QW bj,ay,bx bj];rfl
  generalize cd:c.bd.getD k default=x at *;repeat'(first|(((refine mr ?_);intro K hK) ;simp(disch:=omega)only[Ac,↓Pc,simprocAttr,cd,Mc])|(refine hK _ _ ?_;clear hK K)|(refine mc (λht=>?_) (λht=>?_)<;>(try simp only[iL,simprocAttr]at ht))|refine qg rfl ?_|(refine q6 ?_;intro Qb dR fl gk)|(refine oG ?_;intro Q hn he)|((first|refine hn _ _ ?_|refine he _ _ _ rfl ?_);clear hn he;try clear Q)|with_reducible refine cD ?_ ?_|omega)
  have fin:∀ A1 m1,GI left.length (c.bd.take k) A1 b0 m1->(∃ e∈A1,e.1=x.cls)->∃ e∈A1,e.1=x.cls/\oH x.cls (gE A1)=some (.map (some e.2.1)):=λA1 m1 h1 h2=>by
   rcases NG x.cls A1 with⟨_,g⟩|g
   ·obtain⟨e,he,hh⟩:=h2;exact absurd hh (g e he)
   ·exact g
  rcases NG x.cls A with⟨g1,g2⟩|⟨e0,g1,g2,g3⟩
  ·refine FA (by simp only[Kc,simprocAttr]<;>exact rfl) (by simp only[Kc,simprocAttr]<;>exact rfl) Jk hA.top ?_;rw[g1];repeat'(first|(((refine sv ?_);intro K hK) ;simp(disch:=omega)only[Ac,↓Pc,simprocAttr,Jl,He,QX,Mc])|(with_reducible refine gO ?_;simp(disch:=omega)only[Ac,↓Pc,simprocAttr,Jl,He,QX,Mc])|(refine hK _ _ ?_;clear hK K)|(refine mc (λht=>?_) (λht=>?_)<;>(try simp only[iL,simprocAttr]at ht)))
   refine ZF λb hb=>?_;(with_reducible refine gO ?_;simp(disch:=omega)only[Ac,↓Pc,simprocAttr,Mc])
   refine Ns (by simp only[Kc,simprocAttr]<;>exact rfl) (by simp only[Kc,simprocAttr]<;>exact rfl) (by simp only[Kc,simprocAttr]<;>exact rfl) akh (by rw[qZ _ _ (λe=>by rw[<- e,hA.top]at hb;cases hb)];exact hA.top) ?_;have tP:=hA.new hx.1 g2 hb;obtain⟨e1,k1,k2,k3⟩:=fin _ _ tP ⟨(x.cls,b,[]),G9,rfl⟩;repeat'(first|(((refine sv ?_);intro K hK) ;simp(disch:=omega)only[Ac,↓Pc,simprocAttr,cd,Mc])|(refine hK _ _ ?_;clear hK K)|((refine hn _ _ ?_);clear hn he;try clear Q))
   refine FA (by simp only[Kc,simprocAttr]<;>exact rfl) (by simp only[Kc,simprocAttr]<;>exact rfl) Jk tP.top ?_;rw[k3];(with_reducible refine gO ?_;simp(disch:=omega)only[Ac,↓Pc,simprocAttr,cd,lR,Mc])
   refine Ns (by simp only[Kc,simprocAttr]<;>exact rfl) (by simp only[Kc,simprocAttr]<;>exact rfl) (by simp only[Kc,simprocAttr]<;>exact rfl) abg (tP.sub e1 k1) ?_;repeat'(first|(((refine sv ?_);intro K hK) ;simp(disch:=omega)only[Ac,↓Pc,simprocAttr,Mc])|(refine hK _ _ ?_;clear hK K)|((refine hn _ _ ?_);clear hn he;try clear Q)|((refine dR _ _ ?_);clear dR fl gk;try clear Qb)|with_reducible refine cD ?_ ?_|omega)
   exact ak _ _ (k+1) ⟨Ey,_,by rw[ik];exact tP.put k1 k2⟩ Ey (by(refine l8.se [0] false (by simp only[Oc,simprocAttr]) ?_;simp only[Hr,↓reduceIte,Nat.reduceEqDiff,s6,Nat.reduceAdd];try(and_intros<;>first|exact .pure rfl|exact .eq rfl|exact .fz rfl (by simp only[Bc,Rc]))))
  ·refine FA (by simp only[Kc,simprocAttr]<;>exact rfl) (by simp only[Kc,simprocAttr]<;>exact rfl) Jk hA.top ?_;rw[g3];repeat'(first|(((refine sv ?_);intro K hK) ;simp(disch:=omega)only[Ac,↓Pc,simprocAttr,Jl,lR,Option.isNone_some,Mc])|(with_reducible refine gO ?_;simp(disch:=omega)only[Ac,↓Pc,simprocAttr,Jl,lR,Option.isNone_some,Mc])|(refine hK _ _ ?_;clear hK K)|(refine mc (λht=>?_) (λht=>?_)<;>(try simp only[iL,simprocAttr]at ht))|refine qg rfl ?_|((refine hn _ _ ?_);clear hn he;try clear Q))
   refine FA (by simp only[Kc,simprocAttr]<;>exact rfl) (by simp only[Kc,simprocAttr]<;>exact rfl) Jk hA.top ?_;rw[g3];(with_reducible refine gO ?_;simp(disch:=omega)only[Ac,↓Pc,simprocAttr,cd,lR,Mc])
   refine Ns (by simp only[Kc,simprocAttr]<;>exact rfl) (by simp only[Kc,simprocAttr]<;>exact rfl) (by simp only[Kc,simprocAttr]<;>exact rfl) abg (hA.sub e0 g1) ?_;repeat'(first|(((refine sv ?_);intro K hK) ;simp(disch:=omega)only[Ac,↓Pc,simprocAttr,Mc])|(refine hK _ _ ?_;clear hK K)|((refine hn _ _ ?_);clear hn he;try clear Q)|((refine dR _ _ ?_);clear dR fl gk;try clear Qb)|with_reducible refine cD ?_ ?_|omega)
   exact ak _ _ (k+1) ⟨Ey,_,by rw[ik];exact hA.put g1 g2⟩ Ey (by(refine l8.se [0] false (by simp only[Oc,simprocAttr]) ?_;simp only[Hr,↓reduceIte,Nat.reduceEqDiff,s6,Nat.reduceAdd];try(and_intros<;>first|exact .pure rfl|exact .eq rfl|exact .fz rfl (by simp only[Bc,Rc]))))
 ·rw[dt Ey]at hA;repeat'(first|(((refine mr ?_);intro K hK) ;simp(disch:=omega)only[Ac,↓Pc,simprocAttr,Mc])|(refine hK _ _ ?_;clear hK K)|(refine mc (λht=>?_) (λht=>?_)<;>(try simp only[iL,simprocAttr]at ht))|refine qg rfl ?_|(refine q6 ?_;intro Qb dR fl gk)|(refine oG ?_;intro Q hn he)|((first|refine hn _ _ ?_|refine he _ _ _ rfl ?_);clear hn he;try clear Q)|with_reducible refine cD ?_ ?_|omega)
  refine aq _ _ _ rfl ?_;clear ak aq Ql;repeat(first|((refine hn _ _ ?_);clear hn he;try clear Q)|((refine fl _ _ ?_);clear dR fl gk;try clear Qb))
  repeat'(first|(((refine mr ?_);intro K hK) ;simp(disch:=omega)only[Ac,↓Pc,simprocAttr,Mc])|(refine hK _ _ ?_;clear hK K)|(refine oG ?_;intro Q hn he))
  have hcA:=hA.sH;have Ga:=hA.sum;have Aq:∀ x∈c.bd,1<=x.wt/\x.wt<=1000:=λx hx=>(hc x hx).2;have nj:=FG Aq left;generalize hf:(λj:Nat=>k9 c.bd (A.getD j (0,0,[])).1 (left.getD (A.getD j (0,0,[])).1.toNat []))=f;have hf1:∀ j,k9 c.bd (A.getD j (0,0,[])).1 (left.getD (A.getD j (0,0,[])).1.toNat [])=f j:=λj=>by rw[<- hf]
  have eG:∀ j,0<=f j/\f j<=1000:=λj=>by rw[<- hf1];exact aab Aq _ _
  have hAl:A.length<=left.length:=hA.len;refine aiG (by simp only[Kc,simprocAttr]<;>exact rfl) aki hA.top λr hr=>?_;repeat'(first|(refine hK _ _ ?_;clear hK K)|(refine q6 ?_;intro Qb dR fl gk))
  refine IK (λseen:List Nat=>(⟨ar [(1,.tree 1 (rowsOf aA left)),(2,.ptr 0 0 0),(8,QM (xS f seen A.length)),(42,.lit (.pointer (some ⟨r,0,none⟩)))],[.var (dz c)]⟩:St))
   (λseen m=>GI left.length c.bd A b0 m/\m r=some (.iter b0 A.length seen)) (λseen=>FH seen A.length) [] ⟨hA.other _ (λl=>by rw[hr];simp),by rw[tB,IQ]⟩ (by(refine l8.ar _ _ rfl ?_;simp only[Tc,↓reduceIte,Nat.reduceEqDiff,s6,Nat.reduceAdd,aja];try trivial)) ?_
  rintro seen m1⟨tP,lY⟩Ql ak aq;(((refine mr ?_);intro K hK) ;simp(disch:=omega)only[Ac,↓Pc,simprocAttr,Mc])
  refine aiI (b:=b0) (seen:=seen) (ents:=iE (gE A)) (by simp only[Kc,simprocAttr]<;>exact rfl) (by rw[IQ];exact lY) tP.top (λdS=>?_) (λj p hp hj=>?_)
  ·rw[IQ]at dS;rw[ai' dS,<- hf,aai (λc'=>k9 c.bd c' (left.getD c'.toNat [])),Ga];repeat'(first|(with_reducible refine gO ?_;simp(disch:=omega)only[Ac,↓Pc,simprocAttr,Mc])|(refine hK _ _ ?_;clear hK K)|(refine mc (λht=>?_) (λht=>?_)<;>(try simp only[iL,simprocAttr]at ht))|refine qg rfl ?_|(refine oG ?_;intro Q hn he)|((refine he _ _ _ rfl ?_);clear hn he;try clear Q))
   refine aq _ _ _ rfl ?_;clear ak aq Ql;repeat(first|((refine hn _ _ ?_);clear hn he;try clear Q)|((refine fl _ _ ?_);clear dR fl gk;try clear Qb))
   repeat'(first|(((refine mr ?_);intro K hK) ;simp(disch:=omega)only[Ac,↓Pc,simprocAttr,Mc])|(refine cg (ain c (kE c.bd 0 left 0) hm Ey nj.1 hp) rfl rfl ?_)|(refine hK _ _ ?_;clear hK K)|refine qg rfl ?_)
   refine Xe ?_;first|refine aN rfl ?_|refine Xl ?_ ?_
   rfl
  ·rw[aaj,aak]at hp;cases he:A[j]? with
   |none=>rw[he]at hp;simp at hp
   |some e =>
    rw[he]at hp;simp only[Option.map_some,Option.some.injEq]at hp;subst hp;have iw:=(List.getElem?_eq_some_iff.1 he).1;have Jm:A.getD j (0,0,[])=e:=by rw[ay,he];rfl
    have Jn:e∈A:=List.mem_of_getElem? he;obtain⟨mD,kT⟩:=hcA e Jn;have Gb:=hf1 j;rw[Jm]at Gb;have hval:=tP.val e Jn;have akj:=tP.sub e Jn;have cV:=bK _ (aF (l:=left) (i:=e.1.toNat) (d:=[]) Ey);have hsi:=ajb (f:=f) (B:=1000) (seen:=seen) (n:=A.length) Ey λi _=>eG i;have dF:=ai9 (f:=f) iw hj;have aX:=aah iw hj;generalize y7:left.getD e.1.toNat []=row at *;have abj:left.getD e.1.toNat default=row:=y7;repeat'(first|(((refine mr ?_);intro K hK) ;simp(disch:=omega)only[Ac,↓Pc,simprocAttr,Mc])|(with_reducible refine gO ?_;simp(disch:=omega)only[Ac,↓Pc,simprocAttr,Mc])|(refine hK _ _ ?_;clear hK K)|(refine mc (λht=>?_) (λht=>?_)<;>(try simp only[iL,simprocAttr]at ht))|refine qg rfl ?_|(refine q6 ?_;intro Qb dR fl gk)|(refine oG ?_;intro Q hn he)|((refine hn _ _ ?_);clear hn he;try clear Q))
    refine aiL (seen:=seen) (j:=j) (b:=b0) (ents:=iE (gE A)) (q:=(.int .i64 e.1,.map (some e.2.1))) (by simp only[Kc,simprocAttr]<;>exact rfl) (tB _ _ _) (by rw[qZ _ _ (λe2=>by rw[<- e2,tP.top]at lY;cases lY)];exact tP.top) (by rw[aaj,aak,he];rfl) ?_;repeat'(first|(((refine mr ?_);intro K hK) ;simp(disch:=omega)only[Ac,↓Pc,simprocAttr,abj,aA,Mc])|(with_reducible refine gO ?_;simp(disch:=omega)only[Ac,↓Pc,simprocAttr,abj,aA,Mc])|(refine hK _ _ ?_;clear hK K)|(refine q6 ?_;intro Qb dR fl gk)|(refine oG ?_;intro Q hn he)|with_reducible refine cD ?_ ?_|omega)
    generalize uU:iQ m1 r (.iter b0 (iE (gE A)).length (seen++[j]))=m2;have eR:m2 r=some (.iter b0 A.length (seen++[j])):=by rw[<- uU,tB,IQ]
    have y8:GI left.length c.bd A b0 m2:=by rw[<- uU];exact tP.other _ λl=>by rw[lY];simp
    have akk:=y8.sub e Jn;clear akj;refine IK (λo:Nat=>(⟨ar [(1,.tree 1 (rowsOf aA left)),(2,.ptr 0 0 0),(8,QM (xS f seen A.length)),(42,.lit (.pointer (some ⟨r,0,none⟩))),(10,.lit (.map (some e.2.1))),(11,QM (ef c.bd e.1 0 (row.take o) (-1))),(51,.tree 1 (aV row)),(52,QM row.length),(53,QM o)],[.var (dz c)]⟩:St))
     (λo m=>o<=row.length/\m=m2) (λo=>row.length-o) 0 ⟨aP _,rfl⟩ (by(refine l8.ar _ _ rfl ?_;simp only[Tc,↓reduceIte,Nat.reduceEqDiff,s6,Nat.reduceAdd,mu,ef];try trivial)) ?_
    rintro o m3⟨ho,rfl⟩cR bg bm;have hb:=IP Aq e.1 (row.take o) 0 (-1) Ey;by_cases cz:o<row.length
    ·have ik:ef c.bd e.1 0 (row.take (o+1)) (-1)=if row.getD o false=true/\(ef c.bd e.1 0 (row.take o) (-1)<0\/gy c.bd e.1 o 0<ef c.bd e.1 0 (row.take o) (-1)) then gy c.bd e.1 o 0 else ef c.bd e.1 0 (row.take o) (-1):=by
      rw[QW cz,NI,ay,bx cz,List.length_take,Nat.min_eq_left Ey,Nat.zero_add];rfl
     have hw:=BT Aq e.1 o 0 Ey;have hv:=hval o;generalize ef c.bd e.1 0 (row.take o) (-1)=b at *;generalize gy c.bd e.1 o 0=w at *;generalize B9:row.getD o false=is at *;repeat'(first|(((refine mr ?_);intro K hK) ;simp(disch:=omega)only[Ac,↓Pc,simprocAttr,B9,Mc])|(refine hK _ _ ?_;clear hK K)|(refine mc (λht=>?_) (λht=>?_)<;>(try simp only[iL,simprocAttr]at ht))|refine qg rfl ?_|(refine q6 ?_;intro Qb dR fl gk)|(refine oG ?_;intro Q hn he)|((first|refine hn _ _ ?_|refine he _ _ _ rfl ?_);clear hn he;try clear Q)|with_reducible refine cD ?_ ?_|omega)
     refine FA (by simp only[Kc,simprocAttr]<;>exact rfl) (by simp only[Kc,simprocAttr]<;>exact rfl) akg akk ?_;rw[aad,hv];repeat'(first|(((first|refine mr ?_|refine sv ?_);intro K hK) ;simp(disch:=omega)only[Ac,↓Pc,simprocAttr,B9,Mc])|(with_reducible refine gO ?_;simp(disch:=omega)only[Ac,↓Pc,simprocAttr,B9,Mc])|(refine hK _ _ ?_;clear hK K)|(with_reducible refine gS (λba=>?_) (λba=>?_)<;>(have hb:=ba;(try simp only[iL,simprocAttr]at hb);simp(disch:=omega)only[Ac,↓Pc,simprocAttr,B9,Mc,ba];clear ba))|(refine mc (λht=>?_) (λht=>?_)<;>(try simp only[iL,simprocAttr]at ht))|refine qg rfl ?_|((refine hn _ _ ?_);clear hn he;try clear Q)|((refine dR _ _ ?_);clear dR fl gk;try clear Qb)|with_reducible refine cD ?_ ?_|omega)
     all_goals
      refine bg _ _ (o+1) ⟨Ey,rfl⟩ Ey ?_;simp only[ik];first
       |rw[if_pos ⟨by assumption,Ey⟩]
       |rw[if_neg (by rintro⟨h1,h2⟩;first|omega|(simp only[h1]at *;contradiction)|simp_all)]
      (refine l8.ar _ _ rfl ?_;simp only[Tc,↓reduceIte,Nat.reduceEqDiff,s6,Nat.reduceAdd];try trivial)
    ·rw[dt Ey]at hb;have j6:max (ef c.bd e.1 0 row (-1)) 0=f j:=Gb;repeat'(first|(((refine mr ?_);intro K hK) ;simp(disch:=omega)only[Ac,↓Pc,simprocAttr,dt (show row.length<=o by omega),Mc])|(refine hK _ _ ?_;clear hK K)|(refine mc (λht=>?_) (λht=>?_)<;>(try simp only[iL,simprocAttr]at ht))|refine qg rfl ?_|(refine q6 ?_;intro Qb dR fl gk)|(refine oG ?_;intro Q hn he)|((first|refine hn _ _ ?_|refine he _ _ _ rfl ?_);clear hn he;try clear Q)|with_reducible refine cD ?_ ?_|omega)
     refine bm _ _ _ rfl ?_;clear bg bm cR;repeat(first|((refine hn _ _ ?_);clear hn he;try clear Q)|((refine fl _ _ ?_);clear dR fl gk;try clear Qb))
     repeat'(first|(((refine sv ?_);intro K hK) ;simp(disch:=omega)only[Ac,↓Pc,simprocAttr,Mc])|(refine hK _ _ ?_;clear hK K)|((refine dR _ _ ?_);clear dR fl gk;try clear Qb)|with_reducible refine cD ?_ ?_|omega)
     exact ak _ _ (seen++[j]) ⟨y8,eR⟩ aX (by simp only[dF,<- j6];(refine l8.ar _ _ rfl ?_;simp only[Tc,↓reduceIte,Nat.reduceEqDiff,s6,Nat.reduceAdd];try trivial))
def I':IntKind.u64.min=0:=rfl
def Ja:IntKind.u64.max=18446744073709551615:=rfl
def akl:IntKind.u64.bits=64:=rfl
def p32:(2:Int)^(32:Nat)=4294967296:=rfl
def aaW{n:Int}(h:0<=n/\n<=18446744073709551615):IntKind.u64.wrap n=n:=zO h
def ajK{n:Int}(h : -9223372036854775808<=n/\n<=9223372036854775807):IntKind.i64.wrap n=n:=zO h
def akn{a:Int}(h:0<=a/\a<=18446744073709551615):Dc .u64 a 4294967295=a%4294967296:=by
 unfold Dc;have e:(BitVec.ofInt IntKind.u64.bits a &&& BitVec.ofInt IntKind.u64.bits 4294967295).toNat=a.toNat%4294967296:=by
  rw[BitVec.toNat_and,BitVec.toNat_ofInt,BitVec.toNat_ofInt];have h1:(a%((2^IntKind.u64.bits:Nat):Int)).toNat=a.toNat:=by rw[Int.emod_eq_of_lt h.1 (by show a<18446744073709551616;omega)]
  have h2:((4294967295:Int)%((2^IntKind.u64.bits:Nat):Int)).toNat=2^32-1:=Hg;rw[h1,h2,Nat.and_two_pow_sub_one_eq_mod]
 rw[e];rw[zO (by simp only[I',Ja];omega)];omega
def unI:Tryz.prog.underlying 3=some (.int .i64):=by kernel_rfl
def unU:Tryz.prog.underlying 174=some (.int .u64):=by kernel_rfl
def ako(y:Int)(hy:0<=y/\y<=9223372036854775807):Holds Tryz.prog 146 [.lit (.int .u64 1),.lit (.int .u64 y)] [] (.bC [.lit (.int .u64 0),.lit (.int .u64 y)]) []:=by
 refine Holds.aM 51 0 [.tmp 4,.tmp 5] Tryz.func146 ?_;refine Vb (X5 @I' @Ja @akl @p32 (X4 @akn @aaW @Int.one_mul @Int.zero_mul)) ?_;refine aN rfl ?_;congr 3;all_goals first|rfl|(congr 2;omega)
def ajH(y:Int)(hy:0<=y/\y<=9223372036854775807):Holds Tryz.prog 118 [.lit (.int .u64 1),.lit (.int .u64 y)] [] (.bC [.lit (.int .u64 0),.lit (.int .u64 y)]) []:=by
 refine Holds.aM 30 0 [.tmp 4,.tmp 5] Tryz.func118 ?_;((repeat'(first|refine Vd (X2 @I' @Ja) (ako y hy) ?_|(refine Xi ?_ ?_<;>try intro ht)|exact Xx|fail)))
 exact aN rfl rfl
end T

