import Derived.Test.YtfoopmojjjpapaaGreatX16
import Derived.Test.YtfoopmojjjpapaaGreatX14
set_option linter.all false
set_option maxHeartbeats 0
set_option maxRecDepth 20000
open List renaming mem_singleton→cV,take_zero→mD,take_succ_eq_append_getElem→Qa,getD_eq_getElem?_getD→az,getElem?_eq_getElem→bF,take_of_length_le→dm,getElem?_eq_some_iff→aV,mem_append→cG,mem_map→bW,mem_iff_getElem→uX,getElem?_set_ne→gA,mem_cons→bw,map_cons→ei,cons_append→dx,nodup_cons→mX,map_nil→nQ,getElem?_cons_succ→tJ,getD_cons_succ→e7,length→jB,getElem?_map→bI,getElem?_cons_zero→uY,getElem?_eq_none→dK,set_cons_succ→y8
open Nat renaming zero_le→aS,reduceBEq→sF,add_zero→jq
open And renaming intro→c6
open Option renaming getD_none→GH,isNone_none→Qh,getD_some→lV,map_some→eH,some→cA
open Go Go.Am Go.Proofs
namespace T
def aC(l:List Bool):List AV:=[.tree 1 (a8 l)]
instance:Row aC 1:=⟨λ_=>rfl,λl v hv=>by
 simp only[aC,cV]at hv;subst hv;exact .inr ⟨_,_,rfl⟩⟩
def Jj:ID Tryz.prog 211 (.map none):=⟨_,_,rfl,rfl,λw=>P8⟩
def akx:ID Tryz.prog 212 (.int .i64 0):=⟨_,_,rfl,rfl,λw=>P8⟩
def aky:IC Tryz.prog 211:=⟨_,_,rfl,rfl⟩
def abl:IC Tryz.prog 212:=⟨_,_,rfl,rfl⟩
def akz:uG Tryz.prog 211:=⟨_,_,rfl⟩
def Jk:uG Tryz.prog 212:=⟨_,_,rfl⟩
def ajv(c:Ct)(left:List (List Bool))(n:Nat)(apk:left.length<=n)(hc:∀ x∈c.bh,(0<=x.cls/\x.cls<left.length)/\1<=x.wt/\x.wt<=1000)(hl:left.length<=1000)(bL:∀ r∈left,r.length<=1000)(ij:c.bh.length<9223372036854775808)(hm:0<=c.most)(hp:bT c.cf):
  Holds Tryz.prog 117 [.agg (dv c),.tree 1 (rowsOf aC left)] [] (Qf (jg left c)) []:=by
 refine Holds.aM 80 0 [.tmp 4] Tryz.func117 ?_;refine ahP ?_;repeat'(first|(((refine mr ?_);intro K hK) ;simp(disch:=omega)only[Ac,↓Pc,simprocAttr,Mc])|(refine hK _ _ ?_;clear hK K))
 refine Wg λb0 lL=>?_;repeat'(first|(((refine mr ?_);intro K hK) ;simp(disch:=omega)only[Ac,↓Pc,simprocAttr,Mc])|(with_reducible refine gO ?_;simp(disch:=omega)only[Ac,↓Pc,simprocAttr,Mc])|(refine hK _ _ ?_;clear hK K)|(refine qH ?_;intro Qb dN eW fU)|(refine oo ?_;intro Q hn he))
 refine IB (λk:Nat=>(⟨ao [(1,.tree 1 (rowsOf aC left)),(2,.ptr 0 0 0),(5,.lit (.map (some b0))),(17,.tree 3 (rowsOf rz c.bh)),(18,Qf c.bh.length),(19,Qf k)],[.var (dv c)]⟩:St))
  (λk m=>k<=c.bh.length/\∃ A,GI left.length (c.bh.take k) A b0 m) (λk=>c.bh.length-k) 0 ⟨aS _,[],by rw[mD];exact GI.nil (s9 _ _ _)⟩ (by(refine lP.ao _ _ rfl ?_;simp only[Tc,↓reduceIte,Nat.reduceEqDiff,sF,Nat.reduceAdd];try trivial)) ?_
 rintro k m0⟨hk,A,hA⟩Ql ak aq;by_cases bg:k<c.bh.length
 ·have hx:=hc _ (aF (d:=default) bg);have gR:c.bh.take (k+1)=c.bh.take k++[c.bh.getD k default]:=by
   rw[Qa bg,az,bF bg];rfl
  generalize bZ:c.bh.getD k default=x at *;repeat'(first|(((refine mr ?_);intro K hK) ;simp(disch:=omega)only[Ac,↓Pc,simprocAttr,bZ,Mc])|(refine hK _ _ ?_;clear hK K)|(refine mc (λht=>?_) (λht=>?_)<;>(try simp only[iv,simprocAttr]at ht))|refine pP rfl ?_|(refine qH ?_;intro Qb dN eW fU)|(refine oo ?_;intro Q hn he)|((first|refine hn _ _ ?_|refine he _ _ _ rfl ?_);clear hn he;try clear Q)|with_reducible refine c6 ?_ ?_|omega)
  have fin:∀ A1 m1,GI left.length (c.bh.take k) A1 b0 m1->(∃ e∈A1,e.1=x.cls)->∃ e∈A1,e.1=x.cls/\od x.cls (gE A1)=some (.map (some e.2.1)):=λA1 m1 h1 h2=>by
   rcases MJ x.cls A1 with⟨_,g⟩|g
   ·obtain⟨e,he,hh⟩:=h2;exact absurd hh (g e he)
   ·exact g
  rcases MJ x.cls A with⟨g1,g2⟩|⟨e0,g1,g2,g3⟩
  ·refine Fb (by simp only[Kc,simprocAttr]<;>exact rfl) (by simp only[Kc,simprocAttr]<;>exact rfl) Jj hA.top ?_;rw[g1];repeat'(first|(((refine rQ ?_);intro K hK) ;simp(disch:=omega)only[Ac,↓Pc,simprocAttr,Jk,GH,Qh,Mc])|(with_reducible refine gO ?_;simp(disch:=omega)only[Ac,↓Pc,simprocAttr,Jk,GH,Qh,Mc])|(refine hK _ _ ?_;clear hK K)|(refine mc (λht=>?_) (λht=>?_)<;>(try simp only[iv,simprocAttr]at ht)))
   refine Wg λb hb=>?_;(with_reducible refine gO ?_;simp(disch:=omega)only[Ac,↓Pc,simprocAttr,Mc])
   refine M5 (by simp only[Kc,simprocAttr]<;>exact rfl) (by simp only[Kc,simprocAttr]<;>exact rfl) (by simp only[Kc,simprocAttr]<;>exact rfl) aky (by rw[qC _ _ (λe=>by rw[<- e,hA.top]at hb;cases hb)];exact hA.top) ?_;have tz:=hA.new hx.1 g2 hb;obtain⟨e1,k1,k2,k3⟩:=fin _ _ tz ⟨(x.cls,b,[]),GM,rfl⟩;repeat'(first|(((refine rQ ?_);intro K hK) ;simp(disch:=omega)only[Ac,↓Pc,simprocAttr,bZ,Mc])|(refine hK _ _ ?_;clear hK K)|((refine hn _ _ ?_);clear hn he;try clear Q))
   refine Fb (by simp only[Kc,simprocAttr]<;>exact rfl) (by simp only[Kc,simprocAttr]<;>exact rfl) Jj tz.top ?_;rw[k3];(with_reducible refine gO ?_;simp(disch:=omega)only[Ac,↓Pc,simprocAttr,bZ,lV,Mc])
   refine M5 (by simp only[Kc,simprocAttr]<;>exact rfl) (by simp only[Kc,simprocAttr]<;>exact rfl) (by simp only[Kc,simprocAttr]<;>exact rfl) abl (tz.sub e1 k1) ?_;repeat'(first|(((refine rQ ?_);intro K hK) ;simp(disch:=omega)only[Ac,↓Pc,simprocAttr,Mc])|(refine hK _ _ ?_;clear hK K)|((refine hn _ _ ?_);clear hn he;try clear Q)|((refine dN _ _ ?_);clear dN eW fU;try clear Qb)|with_reducible refine c6 ?_ ?_|omega)
   exact ak _ _ (k+1) ⟨GK,_,by rw[gR];exact tz.put k1 k2⟩ GK (by(refine lP.se [0] false (by simp only[Oc,simprocAttr]) ?_;simp only[Hr,↓reduceIte,Nat.reduceEqDiff,sF,Nat.reduceAdd];try(and_intros<;>first|exact .pure rfl|exact .eq rfl|exact .fz rfl (by simp only[Bc,Rc]))))
  ·refine Fb (by simp only[Kc,simprocAttr]<;>exact rfl) (by simp only[Kc,simprocAttr]<;>exact rfl) Jj hA.top ?_;rw[g3];repeat'(first|(((refine rQ ?_);intro K hK) ;simp(disch:=omega)only[Ac,↓Pc,simprocAttr,Jk,lV,Option.isNone_some,Mc])|(with_reducible refine gO ?_;simp(disch:=omega)only[Ac,↓Pc,simprocAttr,Jk,lV,Option.isNone_some,Mc])|(refine hK _ _ ?_;clear hK K)|(refine mc (λht=>?_) (λht=>?_)<;>(try simp only[iv,simprocAttr]at ht))|refine pP rfl ?_|((refine hn _ _ ?_);clear hn he;try clear Q))
   refine Fb (by simp only[Kc,simprocAttr]<;>exact rfl) (by simp only[Kc,simprocAttr]<;>exact rfl) Jj hA.top ?_;rw[g3];(with_reducible refine gO ?_;simp(disch:=omega)only[Ac,↓Pc,simprocAttr,bZ,lV,Mc])
   refine M5 (by simp only[Kc,simprocAttr]<;>exact rfl) (by simp only[Kc,simprocAttr]<;>exact rfl) (by simp only[Kc,simprocAttr]<;>exact rfl) abl (hA.sub e0 g1) ?_;repeat'(first|(((refine rQ ?_);intro K hK) ;simp(disch:=omega)only[Ac,↓Pc,simprocAttr,Mc])|(refine hK _ _ ?_;clear hK K)|((refine hn _ _ ?_);clear hn he;try clear Q)|((refine dN _ _ ?_);clear dN eW fU;try clear Qb)|with_reducible refine c6 ?_ ?_|omega)
   exact ak _ _ (k+1) ⟨GK,_,by rw[gR];exact hA.put g1 g2⟩ GK (by(refine lP.se [0] false (by simp only[Oc,simprocAttr]) ?_;simp only[Hr,↓reduceIte,Nat.reduceEqDiff,sF,Nat.reduceAdd];try(and_intros<;>first|exact .pure rfl|exact .eq rfl|exact .fz rfl (by simp only[Bc,Rc]))))
 ·rw[dm GK]at hA;repeat'(first|(((refine mr ?_);intro K hK) ;simp(disch:=omega)only[Ac,↓Pc,simprocAttr,Mc])|(refine hK _ _ ?_;clear hK K)|(refine mc (λht=>?_) (λht=>?_)<;>(try simp only[iv,simprocAttr]at ht))|refine pP rfl ?_|(refine qH ?_;intro Qb dN eW fU)|(refine oo ?_;intro Q hn he)|((first|refine hn _ _ ?_|refine he _ _ _ rfl ?_);clear hn he;try clear Q)|with_reducible refine c6 ?_ ?_|omega)
  refine aq _ _ _ rfl ?_;clear ak aq Ql;repeat(first|((refine hn _ _ ?_);clear hn he;try clear Q)|((refine eW _ _ ?_);clear dN eW fU;try clear Qb))
  repeat'(first|(((refine mr ?_);intro K hK) ;simp(disch:=omega)only[Ac,↓Pc,simprocAttr,Mc])|(refine hK _ _ ?_;clear hK K)|(refine oo ?_;intro Q hn he))
  have hcA:=hA.rL;have FR:=hA.sum;have Aa:∀ x∈c.bh,1<=x.wt/\x.wt<=1000:=λx hx=>(hc x hx).2;have mO:=EK Aa left;generalize hf:(λj:Nat=>mP c.bh (A.getD j (0,0,[])).1 (left.getD (A.getD j (0,0,[])).1.toNat []))=f;have CL:∀ j,mP c.bh (A.getD j (0,0,[])).1 (left.getD (A.getD j (0,0,[])).1.toNat [])=f j:=λj=>by rw[<- hf]
  have dU:∀ j,0<=f j/\f j<=1000:=λj=>by rw[<- CL];exact Uz Aa _ _
  have hAl:A.length<=left.length:=hA.len;refine ah2 (by simp only[Kc,simprocAttr]<;>exact rfl) akz hA.top λr hr=>?_;repeat'(first|(refine hK _ _ ?_;clear hK K)|(refine qH ?_;intro Qb dN eW fU))
  refine IB (λseen:List Nat=>(⟨ao [(1,.tree 1 (rowsOf aC left)),(2,.ptr 0 0 0),(8,Qf (xg f seen A.length)),(42,.lit (.pointer (some ⟨r,0,none⟩)))],[.var (dv c)]⟩:St))
   (λseen m=>GI left.length c.bh A b0 m/\m r=some (.iter b0 A.length seen)) (λseen=>E3 seen A.length) [] ⟨hA.other _ (λl=>by rw[hr];simp),by rw[s9,Iq]⟩ (by(refine lP.ao _ _ rfl ?_;simp only[Tc,↓reduceIte,Nat.reduceEqDiff,sF,Nat.reduceAdd,ahz];try trivial)) ?_
  rintro seen m1⟨tz,kI⟩Ql ak aq;(((refine mr ?_);intro K hK) ;simp(disch:=omega)only[Ac,↓Pc,simprocAttr,Mc])
  refine ah4 (b:=b0) (seen:=seen) (ents:=iE (gE A)) (by simp only[Kc,simprocAttr]<;>exact rfl) (by rw[Iq];exact kI) tz.top (λdY=>?_) (λj p hp hj=>?_)
  ·rw[Iq]at dY;rw[ahy dY,<- hf,UH (λc'=>mP c.bh c' (left.getD c'.toNat [])),FR];repeat'(first|(with_reducible refine gO ?_;simp(disch:=omega)only[Ac,↓Pc,simprocAttr,Mc])|(refine hK _ _ ?_;clear hK K)|(refine mc (λht=>?_) (λht=>?_)<;>(try simp only[iv,simprocAttr]at ht))|refine pP rfl ?_|(refine oo ?_;intro Q hn he)|((refine he _ _ _ rfl ?_);clear hn he;try clear Q))
   refine aq _ _ _ rfl ?_;clear ak aq Ql;repeat(first|((refine hn _ _ ?_);clear hn he;try clear Q)|((refine eW _ _ ?_);clear dN eW fU;try clear Qb))
   repeat'(first|(((refine mr ?_);intro K hK) ;simp(disch:=omega)only[Ac,↓Pc,simprocAttr,Mc])|(refine b7 (aiR c (kk c.bh 0 left 0) hm GK mO.1 hp) rfl rfl ?_)|(refine hK _ _ ?_;clear hK K)|refine pP rfl ?_)
   refine Xe ?_;first|refine aO rfl ?_|refine Xl ?_ ?_
   rfl
  ·rw[UJ,UK]at hp;cases he:A[j]? with
   |none=>rw[he]at hp;simp at hp
   |some e =>
    rw[he]at hp;simp only[eH,cA.injEq]at hp;subst hp;have gu:=(aV.1 he).1;have IT:A.getD j (0,0,[])=e:=by rw[az,he];rfl
    have Jl:e∈A:=List.mem_of_getElem? he;obtain⟨mM,lf⟩:=hcA e Jl;have FT:=CL j;rw[IT]at FT;have hval:=tz.val e Jl;have akA:=tz.sub e Jl;have cD:=bL _ (aF (l:=left) (i:=e.1.toNat) (d:=[]) GK);have hsi:=ahA (f:=f) (B:=1000) (seen:=seen) (n:=A.length) GK λi _=>dU i;have dV:=ahx (f:=f) gu hj;have aX:=UG gu hj;generalize CZ:left.getD e.1.toNat []=row at *;have abo:left.getD e.1.toNat default=row:=CZ;repeat'(first|(((refine mr ?_);intro K hK) ;simp(disch:=omega)only[Ac,↓Pc,simprocAttr,Mc])|(with_reducible refine gO ?_;simp(disch:=omega)only[Ac,↓Pc,simprocAttr,Mc])|(refine hK _ _ ?_;clear hK K)|(refine mc (λht=>?_) (λht=>?_)<;>(try simp only[iv,simprocAttr]at ht))|refine pP rfl ?_|(refine qH ?_;intro Qb dN eW fU)|(refine oo ?_;intro Q hn he)|((refine hn _ _ ?_);clear hn he;try clear Q))
    refine ah7 (seen:=seen) (j:=j) (b:=b0) (ents:=iE (gE A)) (q:=(.int .i64 e.1,.map (some e.2.1))) (by simp only[Kc,simprocAttr]<;>exact rfl) (s9 _ _ _) (by rw[qC _ _ (λe2=>by rw[<- e2,tz.top]at kI;cases kI)];exact tz.top) (by rw[UJ,UK,he];rfl) ?_;repeat'(first|(((refine mr ?_);intro K hK) ;simp(disch:=omega)only[Ac,↓Pc,simprocAttr,abo,aC,Mc])|(with_reducible refine gO ?_;simp(disch:=omega)only[Ac,↓Pc,simprocAttr,abo,aC,Mc])|(refine hK _ _ ?_;clear hK K)|(refine qH ?_;intro Qb dN eW fU)|(refine oo ?_;intro Q hn he)|with_reducible refine c6 ?_ ?_|omega)
    generalize vG:iw m1 r (.iter b0 (iE (gE A)).length (seen++[j]))=m2;have kh:m2 r=some (.iter b0 A.length (seen++[j])):=by rw[<- vG,s9,Iq]
    have yJ:GI left.length c.bh A b0 m2:=by rw[<- vG];exact tz.other _ λl=>by rw[kI];simp
    have akB:=yJ.sub e Jl;clear akA;refine IB (λo:Nat=>(⟨ao [(1,.tree 1 (rowsOf aC left)),(2,.ptr 0 0 0),(8,Qf (xg f seen A.length)),(42,.lit (.pointer (some ⟨r,0,none⟩))),(10,.lit (.map (some e.2.1))),(11,Qf (dX c.bh e.1 0 (row.take o) (-1))),(51,.tree 1 (a8 row)),(52,Qf row.length),(53,Qf o)],[.var (dv c)]⟩:St))
     (λo m=>o<=row.length/\m=m2) (λo=>row.length-o) 0 ⟨aS _,rfl⟩ (by(refine lP.ao _ _ rfl ?_;simp only[Tc,↓reduceIte,Nat.reduceEqDiff,sF,Nat.reduceAdd,mD,dX];try trivial)) ?_
    rintro o m3⟨ho,rfl⟩cJ bj br;have hb:=Ip Aa e.1 (row.take o) 0 (-1) GK;by_cases cm:o<row.length
    ·have gR:dX c.bh e.1 0 (row.take (o+1)) (-1)=if row.getD o false=true/\(dX c.bh e.1 0 (row.take o) (-1)<0\/gj c.bh e.1 o 0<dX c.bh e.1 0 (row.take o) (-1)) then gj c.bh e.1 o 0 else dX c.bh e.1 0 (row.take o) (-1):=by
      rw[Qa cm,ML,az,bF cm,List.length_take,Nat.min_eq_left GK,Nat.zero_add];rfl
     have hw:=zG Aa e.1 o 0 GK;have hv:=hval o;generalize dX c.bh e.1 0 (row.take o) (-1)=b at *;generalize gj c.bh e.1 o 0=w at *;generalize BH:row.getD o false=is at *;repeat'(first|(((refine mr ?_);intro K hK) ;simp(disch:=omega)only[Ac,↓Pc,simprocAttr,BH,Mc])|(refine hK _ _ ?_;clear hK K)|(refine mc (λht=>?_) (λht=>?_)<;>(try simp only[iv,simprocAttr]at ht))|refine pP rfl ?_|(refine qH ?_;intro Qb dN eW fU)|(refine oo ?_;intro Q hn he)|((first|refine hn _ _ ?_|refine he _ _ _ rfl ?_);clear hn he;try clear Q)|with_reducible refine c6 ?_ ?_|omega)
     refine Fb (by simp only[Kc,simprocAttr]<;>exact rfl) (by simp only[Kc,simprocAttr]<;>exact rfl) akx akB ?_;rw[UB,hv];repeat'(first|(((first|refine mr ?_|refine rQ ?_);intro K hK) ;simp(disch:=omega)only[Ac,↓Pc,simprocAttr,BH,Mc])|(with_reducible refine gO ?_;simp(disch:=omega)only[Ac,↓Pc,simprocAttr,BH,Mc])|(refine hK _ _ ?_;clear hK K)|(with_reducible refine gS (λa6=>?_) (λa6=>?_)<;>(have hb:=a6;(try simp only[iv,simprocAttr]at hb);simp(disch:=omega)only[Ac,↓Pc,simprocAttr,BH,Mc,a6];clear a6))|(refine mc (λht=>?_) (λht=>?_)<;>(try simp only[iv,simprocAttr]at ht))|refine pP rfl ?_|((refine hn _ _ ?_);clear hn he;try clear Q)|((refine dN _ _ ?_);clear dN eW fU;try clear Qb)|with_reducible refine c6 ?_ ?_|omega)
     all_goals
      refine bj _ _ (o+1) ⟨GK,rfl⟩ GK ?_;simp only[gR];first
       |rw[if_pos ⟨by assumption,GK⟩]
       |rw[if_neg (by rintro⟨h1,h2⟩;first|omega|(simp only[h1]at *;contradiction)|simp_all)]
      (refine lP.ao _ _ rfl ?_;simp only[Tc,↓reduceIte,Nat.reduceEqDiff,sF,Nat.reduceAdd];try trivial)
    ·rw[dm GK]at hb;have jV:max (dX c.bh e.1 0 row (-1)) 0=f j:=FT;repeat'(first|(((refine mr ?_);intro K hK) ;simp(disch:=omega)only[Ac,↓Pc,simprocAttr,dm (show row.length<=o by omega),Mc])|(refine hK _ _ ?_;clear hK K)|(refine mc (λht=>?_) (λht=>?_)<;>(try simp only[iv,simprocAttr]at ht))|refine pP rfl ?_|(refine qH ?_;intro Qb dN eW fU)|(refine oo ?_;intro Q hn he)|((first|refine hn _ _ ?_|refine he _ _ _ rfl ?_);clear hn he;try clear Q)|with_reducible refine c6 ?_ ?_|omega)
     refine br _ _ _ rfl ?_;clear bj br cJ;repeat(first|((refine hn _ _ ?_);clear hn he;try clear Q)|((refine eW _ _ ?_);clear dN eW fU;try clear Qb))
     repeat'(first|(((refine rQ ?_);intro K hK) ;simp(disch:=omega)only[Ac,↓Pc,simprocAttr,Mc])|(refine hK _ _ ?_;clear hK K)|((refine dN _ _ ?_);clear dN eW fU;try clear Qb)|with_reducible refine c6 ?_ ?_|omega)
     exact ak _ _ (seen++[j]) ⟨yJ,kh⟩ aX (by simp only[dV,<- jV];(refine lP.ao _ _ rfl ?_;simp only[Tc,↓reduceIte,Nat.reduceEqDiff,sF,Nat.reduceAdd];try trivial))
def ku(q:Nat×Nat):List AV:=[.ref q.1 1 0 q.2]
def Jm(D:List (Nat×Nat))(p n:Nat):rowsOf ku D++[[AV.ref p 1 0 n]]=rowsOf ku (D++[(p,n)]):=by simp[rowsOf,ku]
structure dj(B:List (Nat×Ob))(D:List (Nat×Nat))(S:List (List Bool))(os:List Ob):Prop where
 base:∀ b∈B,os[b.1]?=some b.2
 len:D.length=S.length
 row:∀ j,j<D.length->os[(D.getD j default).1]?=some (.arr 1 (a8 (S.getD j default)))/\(S.getD j default).length=(D.getD j default).2
 nd:(B.map (·.1)++D.map (·.1)).Nodup
section
variable {B:List (Nat×Ob)} {D:List (Nat×Nat)} {S:List (List Bool)} {os:List Ob}
def dj.app(h:dj B D S os)(l:List Ob):dj B D S (os++l):=⟨λb hb=>aN (h.base b hb) l,h.len,λj hj=>⟨aN (h.row j hj).1 l,(h.row j hj).2⟩,h.nd⟩
def dj.fresh(h:dj B D S os){p:Nat}(hp:os.length<=p):p ∉ B.map (·.1)++D.map (·.1):=λhh=>by
 rw[cG]at hh;rcases hh with hh|hh
 ·obtain⟨q,hq,rfl⟩:=bW.1 hh;have:=(aV.1 (h.base q hq)).1;omega
 ·obtain⟨q,hq,rfl⟩:=bW.1 hh;obtain⟨k,hk,rfl⟩:=uX.1 hq;have h1:=(h.row k hk).1;have a1:D.getD k default=D[k]:=by simp[hk]
  rw[a1]at h1;have:=(aV.1 h1).1;omega
def dj.other(h:dj B D S os){i:Nat}(hi:i ∉ B.map (·.1)++D.map (·.1))(y:Ob):dj B D S (os.set i y):=by
 rw[cG,not_or]at hi;refine⟨λb hb=>?_,h.len,λk hk=>⟨?_,(h.row k hk).2⟩,h.nd⟩
 ·rw[gA (λe=>hi.1 (bW.2 ⟨b,hb,e.symm⟩))];exact h.base b hb
 ·rw[gA (λe=>hi.2 (bW.2 ⟨D.getD k default,aF hk,e.symm⟩))];exact(h.row k hk).1
def dj.add(h:dj B D S os){k:Nat}{x:Ob}(hk:os[k]?=some x)(hf:k ∉ B.map (·.1)++D.map (·.1)):dj ((k,x)::B) D S os :=
 ⟨λb hb=>by rcases bw.1 hb with rfl|hb;exact hk;exact h.base b hb,h.len,h.row,by
  rw[ei,dx,mX];exact⟨hf,h.nd⟩⟩
def dj.b0{a:Nat×Ob}(h:dj (a::B) D S os):os[a.1]?=some a.2:=h.base a GM
def dj.b1{a b:Nat×Ob}(h:dj (a::b::B) D S os):os[b.1]?=some b.2:=h.base b GM
def dj.b2{a b c:Nat×Ob}(h:dj (a::b::c::B) D S os):os[c.1]?=some c.2:=h.base c GM
def dj.b3{a b c d:Nat×Ob}(h:dj (a::b::c::d::B) D S os):os[d.1]?=some d.2:=h.base d GM
def dj.start(x y:Ob):dj [(0,x),(2,.arr 1 []),(1,y)] [] [] [x,y,.arr 1 []]:=⟨GM,rfl,GM,(show([0,2,1]:List Nat).Nodup by decide)⟩
def dj.put{i:Nat}{x:Ob}(h:dj ((i,x)::B) D S os)(y:Ob):dj ((i,y)::B) D S (os.set i y):=by
 have hn:=h.nd;rw[ei,dx,mX]at hn;have hx:=h.base (i,x) GM;have h2:dj B D S os:=⟨λb hb=>h.base b (by simp[hb]),h.len,h.row,hn.2⟩;exact(h2.other hn.1 y).add (mR hx) hn.1
def dj.drop{i:Nat}{x:Ob}(h:dj ((i,x)::B) D S os):dj B D S os/\i ∉ B.map (·.1)++D.map (·.1):=by
 have hn:=h.nd;rw[ei,dx,mX]at hn;exact⟨⟨λb hb=>h.base b (by simp[hb]),h.len,h.row,hn.2⟩,hn.1⟩
def dj.swap{a b:Nat×Ob}(h:dj (a::b::B) D S os):dj (b::a::B) D S os :=
 ⟨λc hc=>h.base c (by simp only[bw]at hc ⊢;rcases hc with hc|hc|hc<;>simp[hc]),h.len,h.row,by
  have:=h.nd;simp only[ei,dx,mX,bw,not_or]at this ⊢;exact⟨⟨Ne.symm this.1.1,this.2.1⟩,this.1.2,this.2.2⟩⟩
def dj.snoc{p:Nat}{r:List Bool}(h:dj ((p,.arr 1 (a8 r))::B) D S os):dj B (D++[(p,r.length)]) (S++[r]) os:=by
 obtain⟨h2,hf⟩:=h.drop;have hp:=h.base (p,.arr 1 (a8 r)) GM;refine⟨h2.base,by simp[h2.len],λj hj=>?_,?_⟩
 ·rw[Is,Is,<- h2.len];by_cases h1:j<D.length
  ·rw[if_pos h1,if_pos h1];exact h2.row j h1
  ·have:j=D.length:=by simp at hj;omega
   rw[if_neg h1,if_neg h1,if_pos this,if_pos this];exact⟨hp,rfl⟩
 ·rw[List.map_append,<- List.append_assoc,List.nodup_append];refine⟨h2.nd,GM,λa ha b hb=>?_⟩;simp only[ei,nQ,cV]at hb;subst hb;exact λe=>hf (e▸ha)
end
def gP(p:Nat):List (List Bool)->List (List AV)
 |[]=>[]
 |r::t=>[.ref p 1 0 r.length]::gP (p+1) t
def oA(S:List (List Bool)):List Ob:=S.map λr=>.arr 1 (a8 r)
def Dx(S:List (List Bool)):(oA S).length=S.length:=List.length_map _
def CQ:∀ (p:Nat) (S:List (List Bool)),(gP p S).length=S.length
 |_,[]=>rfl
 |p,r::t=>by simp only[gP,List.length_cons,CQ (p+1) t]
def zB:∀ (p:Nat) (S:List (List Bool)) (j:Nat),j<S.length->(gP p S)[j]?=some [.ref (p+j) 1 0 (S.getD j default).length]
 |_,[],j,h=>by simp at h
 |p,r::t,0,h=>rfl
 |p,r::t,j+1,h=>by
  rw[gP,tJ,zB (p+1) t j (by simpa using h)];rw[show p+1+j=p+(j+1) by omega,e7]
def S4{S T:List (List Bool)}(p:Nat)(h:S.map jB=T.map jB):gP p S=gP p T:=by
 induction S generalizing T p with
 |nil=>cases T with
  |nil=>rfl
  |cons=>simp at h
 |cons r S ih=>cases T with
  |nil=>simp at h
  |cons t T =>
   simp only[ei,List.cons.injEq]at h;rw[gP,gP,h.1,ih (p+1) h.2]
def SY(ρ:Nat->Nat)(S:List (List Bool)):∀ (q p:Nat),(∀ j,j<S.length->ρ (p+j)=q+j)->(gP p S).map (List.map (bk ρ))=gP q S:=by
 induction S with
 |nil=>intro q p _;rfl
 |cons r t ih =>
  intro q p h;have h0:=h 0 GM;rw[jq,jq]at h0;rw[gP,gP,ei,ei,nQ,bk,h0];refine congrArg _ (ih (q+1) (p+1) λj hj=>?_);have:=h (j+1) (by simpa using hj);rw[show p+1+j=p+(j+1) by omega,this];omega
def SZ(ρ:Nat->Nat)(S:List (List Bool)):(oA S).map (bM ρ)=oA S:=by
 unfold oA;rw[List.map_map];refine List.map_congr_left λr _=>?_;show bM ρ (.arr 1 (a8 r))=_;exact AL _ _ _
def FU{B:List (Nat×Ob)}{D:List (Nat×Nat)}{S:List (List Bool)}{os:List Ob}(h:dj B D S os){j:Nat}(hj:j<S.length):(rowsOf ku D)[j]?=some [.ref (D.getD j default).1 1 0 (S.getD j default).length]:=by
 have hd:=h.len;have h2:=(h.row j GK).2;rw[h2];unfold rowsOf;rw[bI,az,bF GK];rfl
def dj.ret{D:List (Nat×Nat)}{S:List (List Bool)}{os:List Ob}{x:Ob}{oi:Nat}(h:dj [(0,x),(oi,.arr 1 (rowsOf ku D))] D S os)(hx:∀ ρ,bM ρ x=x)(hg:x≠.gone)(e:Nat->AV):
  oK 1 ⟨e,os⟩ (.ref oi 1 0 S.length) (.ref 1 1 0 S.length) (x::.arr 1 (gP 2 S)::oA S):=by
 have hd:=h.len;have h0:=h.base (0,x) GM;have h1:=h.base (oi,.arr 1 (rowsOf ku D)) GM;dsimp only at h0 h1;have hl:∀ i∈0::oi::D.map (·.1),i<os.length:=λi hi=>by
  rcases bw.1 hi with rfl|hi
  ·exact(aV.1 h0).1
  rcases bw.1 hi with rfl|hi
  ·exact(aV.1 h1).1
  obtain⟨q,hq,rfl⟩:=bW.1 hi;obtain⟨k,hk,rfl⟩:=uX.1 hq;have h3:=(h.row k hk).1;have a1:D.getD k default=D[k]:=by simp[hk]
  rw[a1]at h3;exact(aV.1 h3).1
 have FV:∀ j,j<S.length->bq os.length (0::oi::D.map (·.1)) (2+j)=(D.getD j default).1:=λj hj=>by
  unfold bq;rw[if_pos P2,show 2+j=j+1+1 by omega,e7,e7,az,bI,az,bF GK];rfl
 refine⟨0::oi::D.map (·.1),false,by simpa using h.nd,by simp[Dx,hd],λj o hj=>.inr ?_,hl,GM,λi hi=>?_,.eq ?_⟩
 ·match j with
  |0 =>
   simp only[uY,cA.injEq]at hj;subst hj;rw[hx];exact h0
  |1 =>
   simp only[tJ,uY,cA.injEq]at hj;subst hj;refine h1.trans (congrArg some ?_);rw[bM];refine congrArg _ (List.ext_getElem? λi=>?_);rw[bI];by_cases hi:i<S.length
   ·rw[FU h hi,zB 2 S i hi,eH,ei,nQ,bk,FV i hi]
   ·rw[dK (by simp[rowsOf];omega),dK (by rw[CQ];omega)];rfl
  |j+2 =>
   simp only[tJ]at hj;have gu:j<S.length:=by have:=(aV.1 hj).1;rwa [Dx]at this
   have h3:=(h.row j GK).1;unfold oA at hj;rw[bI,bF gu]at hj;simp only[eH,cA.injEq]at hj;subst hj;rw[AL];have e1:(0::oi::D.map (·.1)).getD (j+2) 0=(D.getD j default).1:=by
    rw[e7,e7,az,bI,az,bF GK];rfl
   have e2:S.getD j default=S[j]:=by rw[az,bF gu];rfl
   rw[e1,<- e2];exact h3
 ·have:i=0:=GK;subst this;rfl
 ·rw[bk];have:bq os.length (0::oi::D.map (·.1)) 1=oi:=by unfold bq;rw[if_pos GM];rfl
  rw[this]
def nO(x:Ob)(A:List (List AV))(Y:List (List Bool)):List Ob:=x::.arr 1 A::oA Y
def Bd(x:Ob)(A:List (List AV))(Y:List (List Bool)):(nO x A Y)[1]?=some (.arr 1 A):=rfl
def L3(x:Ob)(A:List (List AV)){Y:List (List Bool)}{i:Nat}(h:i<Y.length):(nO x A Y)[2+i]?=some (.arr 1 (a8 (Y.getD i default))):=by
 unfold nO;rw[show 2+i=i+1+1 by omega,tJ,tJ];unfold oA;rw[bI,az,bF h];rfl
def S3(x:Ob)(A:List (List AV))(Y:List (List Bool))(i:Nat)(r:List Bool):(nO x A Y).set (2+i) (.arr 1 (a8 r))=nO x A (Y.set i r):=by
 unfold nO oA;rw[show 2+i=i+1+1 by omega,y8,y8,List.map_set]
def lH.FY{R:AV->AV->Prop}{f:Nat->List AV}{g:Nat->List AV}:∀ {cs ds:List (List AV)},cs.length=ds.length->(∀ (j:Nat) c d,cs[j]?=some c->ds[j]?=some d->jE R c d)->lH R cs ds
 |[],[],_,_=>trivial
 |[],_::_,h,_=>by simp at h
 |_::_,[],h,_=>by simp at h
 |c::cs,d::ds,h,k=>⟨k 0 c d rfl rfl,lH.FY (f:=f) (g:=g) (by simpa using h) λj c d hc hd=>k (j+1) c d (by simpa using hc) (by simpa using hd)⟩
def abp{σ:St}{kp:Nat->Prop}{id:Nat}{bs:List Bool}(ho:σ.aa[id]?=some (.arr 1 (a8 bs)))(hk:¬ kp id):cQ σ kp (.tree 1 (a8 bs)) (.ref id 1 0 bs.length) :=
 cQ.mk ho (by simp[a8]) hk (KV _) (lH.FY (f:=λ_=>[]) (g:=λ_=>[]) rfl λj c d hc hd=>by
  rw[hc]at hd;cases hd;unfold a8 at hc;rw[bI]at hc;cases hb:bs[j]? with
  |none=>rw[hb]at hc;cases hc
  |some b=>rw[hb]at hc;simp only[eH,cA.injEq]at hc;subst hc;exact⟨.lit _,trivial⟩)
theorem S5{σ:St}{kp:Nat->Prop}{oi:Nat}{A:List (List AV)}{S:List (List Bool)}(ho:σ.aa[oi]?=some (.arr 1 A))(hk:¬ kp oi)(hA:A.length=S.length)(h:∀ j,j<S.length->∃ id,A[j]?=some [.ref id 1 0 (S.getD j default).length]/\σ.aa[id]?=some (.arr 1 (a8 (S.getD j default)))/\¬ kp id):cQ σ kp (.tree 1 (rowsOf aC S)) (.ref oi 1 0 S.length) :=
 cQ.mk ho hA.symm hk (jd _) (lH.FY (f:=fun _=>[]) (g:=fun _=>[]) (by simp[rowsOf,hA]) fun j c d hc hd=>by
  unfold rowsOf at hc;rw[List.getElem?_map]at hc;have hj:j<S.length:=by
   cases hb:S[j]? with
   |none=>rw[hb]at hc;cases hc
   |some b=>exact(List.getElem?_eq_some_iff.1 hb).1
  obtain⟨id,h1,h2,h3⟩:=h j hj;rw[h1]at hd;simp only[Option.some.injEq]at hd;subst hd;rw[List.getElem?_eq_getElem hj]at hc;simp only[Option.map_some,Option.some.injEq]at hc;subst hc;have e2:S.getD j default=S[j]:=by rw[List.getD_eq_getElem?_getD,List.getElem?_eq_getElem hj];rfl
  rw[e2]at h2 ⊢;exact⟨abp h2 h3,trivial⟩)
end T

