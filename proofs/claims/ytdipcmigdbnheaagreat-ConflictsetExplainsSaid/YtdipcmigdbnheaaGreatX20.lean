import Derived.Test.YtdipcmigdbnheaaGreatX19
import Derived.Test.YtdipcmigdbnheaaGreatX18
set_option linter.all false
set_option maxHeartbeats 0
set_option maxRecDepth 20000
open List renaming append_assoc→cM,length_append→bQ,cons_append→dS,nil_append→dY,set_cons_succ→vW,set_cons_zero→sB,length_cons→eB,length_nil→pD,take_zero→kK,mem_cons→cB,not_mem_nil→kI,length_map→dX,length_take→eN,map_nil→kJ,foldl_nil→yJ,mem_map→cz,mem_of_mem_take→sA,take_of_length_le→dJ,getElem?_eq_some_iff→a8,length_set→bF,getElem?_set_ne→bR,append_nil→g9,length_singleton→yF,map_append→fW,take→kL,drop→iT,mem_append→cH,mem_singleton→fE,all_eq_true→fT,replicate→bH,map_take→z6,length_replicate→qg,mem_reverse→uE,flatMap_cons→sC,length→oW,getElem?_eq_getElem→bK,getD_eq_getElem?_getD→aA
open Nat renaming zero_add→gn,zero_le→aI,le_refl→aN,eq_zero_or_pos→m9,min_eq_left→pC
open Bool renaming false_eq_true→jQ,not_false→je
open And renaming intro→eR
open Go Go.Am Go.Proofs
namespace T
def NH(xs:List Nm)(n:Int):rowsOf a7 xs++[[AV.lit (.int .i64 n),.lit (.bool (decide (1099511627776<=n)))]]=rowsOf a7 (xs++[fJ n]):=by simp[rowsOf,a7,fJ]
def aaH{m:aj}(hm:VM m)(os:List Ob):fh Tryz.prog 132 [.agg (aq m)] os λr ob=>∃ gi ai bi D E,r=.ptr gi 0 0/\LO a7 (GB m gi ai bi D E) D E (S0 m) (T0 m) ob/\gI os ob:=by
 have yn:=hm.cls;have s5:=hm.ae;refine fh.aD 94 os.length [.tmp 2] Tryz.func132 ?_;refine Vb (X3 @cy @cM.{0} @bQ.{0}) ?_;have kz1:(os++[Ob.var (aq m),Ob.var (aq m++[.lit (.slice none 0 0),.lit (.slice none 0 0)])])[os.length+1]?=some (.var (aq m++[.lit (.slice none 0 0),.lit (.slice none 0 0)])):=by rw[nX];rfl
 refine bY (aF.ni (os.length+1) 4 1 kz1 rfl Px) ?_;simp only[cM,dS,dY,IZ,vW,sB,bQ,eB,pD,aq,gn,Nat.reduceAdd];clear kz1;refine bY (aF.ni (os.length+1) 5 1 (by rw[nX];rfl) rfl Px) ?_;simp only[cM,dS,dY,IZ,vW,sB,bQ,eB,pD,gn,Nat.reduceAdd];have uj:LO a7 [(os.length+1,.var (gC m (os.length+2) (os.length+3) [] [])),(os.length+2,.arr 1 (rowsOf cW [])),(os.length,.var (aq m)),(os.length+3,.arr 1 (rowsOf cW []))] [] [] ((S0 m).take 0) [] (os++[.var (aq m),.var (gC m (os.length+2) (os.length+3) [] []),.arr 1 [],.arr 1 []]):=by
  refine⟨λb hb=>?_,by rw[kK];exact RI.nil,RI.nil,GF⟩;simp only[cB,kI,or_false]at hb;rcases hb with rfl|rfl|rfl|rfl
  ·exact⟨by rw[nX];rfl,GF⟩
  ·exact⟨by rw[nX];rfl,GF⟩
  ·exact⟨by rw[kf],GF⟩
  ·exact⟨by rw[nX];rfl,GF⟩
 refine aM (λz:Nat×List Ob×Nat×List (Nat×Nat)=>(⟨aw [(1,.ptr os.length 0 0),(3,.ptr (os.length+1) 0 0),(21,.tree 1 (rowsOf bu m.cls)),(22,aaC m.cls.length),(23,aaC z.1)],z.2.1⟩:St))
  (λz=>z.1<=m.cls.length/\z.2.2.2.length=z.1/\LO a7 [(os.length+1,.var (gC m z.2.2.1 (os.length+3) z.2.2.2 [])),(z.2.2.1,.arr 1 (rowsOf cW z.2.2.2)),(os.length,.var (aq m)),(os.length+3,.arr 1 (rowsOf cW []))] z.2.2.2 [] ((S0 m).take z.1) [] z.2.1/\gI os z.2.1/\os.length+1<z.2.2.1/\z.2.2.1≠os.length+3)
  (λz=>m.cls.length-z.1) (0,os++[.var (aq m),.var (gC m (os.length+2) (os.length+3) [] []),.arr 1 [],.arr 1 []],os.length+2,[]) ⟨aI _,rfl,uj,(gI.refl os).app _,PA,PA⟩ (Xv X0) ?_
 clear uj;rintro⟨i,ob,ai,D⟩⟨hi,hD,hL,bm,Eo,NI⟩Ql an ar;dsimp only at hi hD hL bm Eo NI ⊢;by_cases hi':i<m.cls.length
 ·have fi:=ay (d:=default) hi';have s6:=hm.opt _ fi;have cN:(S0 m).take (i+1)=(S0 m).take i++[ep (gG (m.cls.getD i default))]:=by
   rw[eG (by unfold S0;rw[dX];exact hi')];unfold S0;rw[iR _ _ _ hi']
  have ek:=λo ho=>hm.mA _ fi o ho;have ET:=λo ho=>aaJ hm fi (o:=o) ho;generalize aR:m.cls.getD i default=c at *;((repeat'(first|refine Va (X2 @aR @bu.eq_1) ?_|(refine Xi ?_ ?_<;>try intro ht)|exact Xx|fail)))
  have sv:(ep (gG c)).length=c.length:=by unfold ep gG;simp
  refine aM (λz:Nat×List Ob×Nat×List Nm=>(⟨aw [(1,.ptr os.length 0 0),(3,.ptr (os.length+1) 0 0),(21,.tree 1 (rowsOf bu m.cls)),(22,aaC m.cls.length),(23,aaC i),(6,.ref z.2.2.1 2 0 z.2.2.2.length),(27,.tree 6 (rowsOf cQ c)),(28,aaC c.length),(29,aaC z.1)],z.2.1⟩:St))
   (λz=>z.1<=c.length/\LO a7 [(os.length+1,.var (gC m ai (os.length+3) D [])),(ai,.arr 1 (rowsOf cW D)),(os.length,.var (aq m)),(os.length+3,.arr 1 (rowsOf cW []))] D [] ((S0 m).take i) [] z.2.1/\gI os z.2.1/\z.2.1[z.2.2.1]?=some (.arr 2 (rowsOf a7 z.2.2.2))/\z.2.2.1 ∉ List.map (λq:Nat×Nat=>q.1) (D++[])/\os.length<=z.2.2.1/\z.2.2.2=(ep (gG c)).take z.1)
   (λz=>c.length-z.1) (0,ob++[.arr 2 []],ob.length,[]) ⟨aI _,hL.app _,bm.app _,kf _ _ _,hL.fresh (aN _),bm.len,rfl⟩ ?_ ?_
  ·refine aF.trans (aF.nil 6 2 (by simp only[Kc,simprocAttr]) Px) ?_;exact Xv X0
  clear hL bm;rintro⟨k,ok,oi,xs⟩⟨hk,hL,bm,mC,dZ,ui,dy⟩cJ ba bd;dsimp only at hk hL bm mC dZ ui dy ⊢;by_cases aK:k<c.length
  ·have fj:=ay (l:=c) (d:=default) aK;have aaK:=Ib (ek _ fj);have anX:=ET _ fj;have EN:(ep (gG c)).getD k default=fJ (jZ (c.getD k default)):=by
    unfold ep gG;rw[List.map_map,iR _ _ _ aK];rfl
   have CZ:=eG (l:=ep (gG c)) (k:=k) GC;rw[EN,<- dy]at CZ;have rT:xs.length=k:=by rw[dy,eN];omega
   generalize kY:c.getD k default=o at *;((repeat'(first|refine Va (X3 @kY @cy @cQ.eq_1) ?_|(refine Xi ?_ ?_<;>try intro ht)|exact Xx|fail)))
   refine aM (λz:Nat×List Ob=>(⟨aw [(1,.ptr os.length 0 0),(3,.ptr (os.length+1) 0 0),(21,.tree 1 (rowsOf bu m.cls)),(22,aaC m.cls.length),(23,aaC i),(6,.ref oi 2 0 xs.length),(27,.tree 6 (rowsOf cQ c)),(28,aaC c.length),(29,aaC k),(9,aaC (((o.ch.take z.1).map (·.2)).foldl ee 0)),(34,.tree 2 (rowsOf aL o.ch)),(35,aaC o.ch.length),(36,aaC z.1)],z.2⟩:St))
    (λz=>z.1<=o.ch.length/\LO a7 [(os.length+1,.var (gC m ai (os.length+3) D [])),(ai,.arr 1 (rowsOf cW D)),(os.length,.var (aq m)),(os.length+3,.arr 1 (rowsOf cW []))] D [] ((S0 m).take i) [] z.2/\gI os z.2/\z.2[oi]?=some (.arr 2 (rowsOf a7 xs)))
    (λz=>o.ch.length-z.1) (0,ok++[.var (cQ o)]) ⟨aI _,hL.app _,bm.app _,bg mC _⟩ (Xv (X4 @kK.{0} @kJ.{0,0} @yJ.{0,0} @cQ.eq_1)) ?_
   clear hL bm mC;rintro⟨q,oq⟩⟨hq,hL,bm,mC⟩lB fQ eV;dsimp only at hq hL bm mC ⊢;have hs:=EY ((o.ch.take q).map (·.2)) 0 (λx hx=>by
    obtain⟨c,ln,rfl⟩:=cz.1 hx;exact aaK c (sA ln)) (by unfold b7;decide)
   by_cases Ci:q<o.ch.length
   ·have ajK:=aaK _ (ay (d:=default) Ci);have dP:=Mw o.ch q Ci;generalize ((o.ch.take q).map (·.2)).foldl ee 0=s at *;have nY:=MA s (o.ch.getD q default).2 hs ajK;generalize gw:o.ch.getD q default=y at *;((repeat'(first|refine Vc (X3 @gw @cy @aL.eq_1) nY ?_|(refine Xi ?_ ?_<;>try intro ht)|exact Xx|fail)))
    refine fQ _ (q+1,oq++[.var (aL y)]) ⟨PA,hL.app _,bm.app _,bg mC _⟩ PA ?_;simp only[dP];exact Xv @aL.eq_1
   ·have lU:((o.ch.take q).map (·.2)).foldl ee 0=jZ o:=by rw[dJ GC];rfl
    rw[lU]at hs;rw[<- lU]at CZ;generalize ((o.ch.take q).map (·.2)).foldl ee 0=s at *;have NJ:=NA s;have eoi:=bg mC;have NK:=fP mC;have fZ:=(a8.1 mC).1;((repeat'(first|refine Va X0 ?_|(refine Xi ?_ ?_<;>try intro ht)|exact Xx|fail)))
    refine eV _ _ rfl ?_;clear fQ eV lB;repeat(refine Xu ?_)
    refine Vc (X5 @mC @eoi @NK @a7.eq_1 (X5 @fJ.eq_1 @cy @cM.{0} @bQ.{0} (X2 @bF.{0} @NH))) NJ ?_;have pz:=(hL.I4 (y:=.gone) dZ mC).app [.arr 2 [a7 (fJ s)],.arr 2 (rowsOf a7 (xs++[fJ s]))];refine ba _ (k+1,oq.set oi .gone++[.arr 2 [a7 (fJ s)],.arr 2 (rowsOf a7 (xs++[fJ s]))],oq.length+1,xs++[fJ s]) ⟨PA,pz,(bm.set ui).app _,vA _ _ _ _ _,(hL.I4 (y:=.gone) dZ mC).fresh (by dsimp only;rw[bF];omega),by dsimp only;have:=bm.len;omega,CZ.symm⟩ PA ?_;exact Xv (X2 @a7.eq_1 @fJ.eq_1)
  ·rw[dJ GC]at dy;have pM:=(hL.base (os.length+1,.var (gC m ai (os.length+3) D [])) GF).1;have vC:=(hL.base (ai,.arr 1 (rowsOf cW D)) GF).1;dsimp only at pM vC;have NL:=bg pM;have NM:=bg vC;have NN:=fP vC;have v3:(ok.set ai .gone)[os.length+1]?=some (.var (gC m ai (os.length+3) D [])):=by rw[bR GC];exact pM
   have um:=bg v3;have NO:=fP v3;have dP:=hL.step mC dZ (by simp only[cB,kI,or_false,forall_eq_or_imp,forall_eq];omega) [.tree 1 (rowsOf bu m.cls),.tree 4 (rowsOf aP m.ae),.tree 4 (rowsOf aV m.av),aaC m.rules,.ref (ok.length+1) 1 0 (D.length+1),.ref (os.length+3) 1 0 0] (rowsOf cW (D++[(oi,xs.length)])) (.arr 1 [[.ref oi 2 0 xs.length]]);have NP:gC m (ok.length+1) (os.length+3) (D++[(oi,xs.length)]) []=[.tree 1 (rowsOf bu m.cls),.tree 4 (rowsOf aP m.ae),.tree 4 (rowsOf aV m.av),aaC m.rules,.ref (ok.length+1) 1 0 (D.length+1),.ref (os.length+3) 1 0 0]:=by simp[gC]
   have C0:=(a8.1 (hL.base (os.length+3,.arr 1 (rowsOf cW [])) GF).1).1;have fX:=(a8.1 vC).1;dsimp only at C0;((repeat'(first|refine Va X0 ?_|(refine Xi ?_ ?_<;>try intro ht)|exact Xx|fail)))
   refine bd _ _ rfl ?_;clear ba bd cJ;repeat(refine Xu ?_)
   refine Va (X5 @pM @vC @NL @NM (X5 @NN @um @NO @gC.eq_1 (X5 @I1 @cy @cM.{0} @bQ.{0} @bF.{0}))) ?_;refine an _ (i+1,_,ok.length+1,D++[(oi,xs.length)]) ⟨PA,aar,by dsimp only;rw[cN,<- dy,NP];exact dP,((bm.set GC).set GC).app _,PA,PA⟩ PA ?_;exact Xv X0
 rw[dJ (by unfold S0;rw[dX];omega)]at hL;have vn:=(hL.base (os.length,.var (aq m)) GF).1;dsimp only at vn;((repeat'(first|refine Va @vn ?_|(refine Xi ?_ ?_<;>try intro ht)|exact Xx|fail)))
 refine ar _ _ rfl ?_;clear an ar Ql;repeat(refine Xu ?_)
 refine Va @vn ?_;have hL0:LO a7 [(os.length+1,.var (gC m ai (os.length+3) D [])),(os.length+3,.arr 1 (rowsOf cW [])),(os.length,.var (aq m)),(ai,.arr 1 (rowsOf cW D))] [] D ((T0 m).take 0) (S0 m) ob:=hL.swap.sub (by simp only[cB,kI,or_false];intro b hb;rcases hb with rfl|rfl|rfl|rfl<;>simp);refine aM (λz:Nat×List Ob×Nat×List (Nat×Nat)=>(⟨aw [(1,.ptr os.length 0 0),(3,.ptr (os.length+1) 0 0),(63,.tree 4 (rowsOf aP m.ae)),(64,aaC m.ae.length),(65,aaC z.1)],z.2.1⟩:St))
  (λz=>z.1<=m.ae.length/\z.2.2.2.length=z.1/\LO a7 [(os.length+1,.var (gC m ai z.2.2.1 D z.2.2.2)),(z.2.2.1,.arr 1 (rowsOf cW z.2.2.2)),(os.length,.var (aq m)),(ai,.arr 1 (rowsOf cW D))] z.2.2.2 D ((T0 m).take z.1) (S0 m) z.2.1/\gI os z.2.1/\os.length+1<z.2.2.1/\ai≠z.2.2.1)
  (λz=>m.ae.length-z.1) (0,ob,os.length+3,[]) ⟨aI _,rfl,hL0,bm,PA,NI⟩ (Xv X0) ?_
 clear hL hL0 bm vn hi hi' NI ob;rintro⟨i,ob,bi,E⟩⟨hi,hE,hL,bm,iw,nB⟩Ql an ar;dsimp only at hi hE hL bm iw nB ⊢;by_cases hi':i<m.ae.length
 ·have dE:=iA hm.pr _ (ay (d:=default) hi');have nW:=Bh dE hm;have g6:=Im dE;have cN:(T0 m).take (i+1)=(T0 m).take i++[ep (m.ae.getD i default).aB]:=by
   rw[eG (by unfold T0;rw[dX];exact hi')];unfold T0;rw[iR _ _ _ hi']
  generalize b6:m.ae.getD i default=p at *;((repeat'(first|refine Va (X3 @b6 @cy @aP.eq_1) ?_|(refine Xi ?_ ?_<;>try intro ht)|exact Xx|fail)))
  have sv:(ep p.aB).length=p.aB.length:=by unfold ep;simp
  refine aM (λz:Nat×List Ob×Nat×List Nm=>(⟨aw [(1,.ptr os.length 0 0),(3,.ptr (os.length+1) 0 0),(63,.tree 4 (rowsOf aP m.ae)),(64,aaC m.ae.length),(65,aaC i),(14,.ref z.2.2.1 2 0 z.2.2.2.length),(70,.tree 1 (ints p.aB)),(71,aaC p.aB.length),(72,aaC z.1)],z.2.1⟩:St))
   (λz=>z.1<=p.aB.length/\LO a7 [(os.length+1,.var (gC m ai bi D E)),(bi,.arr 1 (rowsOf cW E)),(os.length,.var (aq m)),(ai,.arr 1 (rowsOf cW D))] E D ((T0 m).take i) (S0 m) z.2.1/\gI os z.2.1/\z.2.1[z.2.2.1]?=some (.arr 2 (rowsOf a7 z.2.2.2))/\z.2.2.1 ∉ List.map (λq:Nat×Nat=>q.1) (E++D)/\os.length<=z.2.2.1/\z.2.2.2=(ep p.aB).take z.1)
   (λz=>p.aB.length-z.1) (0,(ob++[.var (aP p)])++[.arr 2 []],(ob++[Ob.var (aP p)]).length,[]) ⟨aI _,(hL.app _).app _,(bm.app _).app _,kf _ _ _,(hL.app [.var (aP p)]).fresh (aN _),by simp;have:=bm.len;omega,rfl⟩ ?_ ?_
  ·refine aF.trans (aF.nil 14 2 (by simp only[Kc,simprocAttr]) Px) ?_;exact Xv X0
  clear hL bm;rintro⟨k,ok,oi,xs⟩⟨hk,hL,bm,mC,dZ,ui,dy⟩cJ ba bd;dsimp only at hk hL bm mC dZ ui dy ⊢;by_cases aK:k<p.aB.length
  ·have EN:(ep p.aB).getD k default=fJ (p.aB.getD k 0):=by
    unfold ep;rw[iR _ _ _ aK];rfl
   have CZ:=eG (l:=ep p.aB) (k:=k) GC;rw[EN,<- dy]at CZ;have rT:xs.length=k:=by rw[dy,eN];omega
   have hs:=g6 _ (ay (d:=0) aK);unfold b7 at hs;generalize gw:p.aB.getD k 0=s at *;have NJ:=NA s;have eoi:=bg mC;have NK:=fP mC;have fZ:=(a8.1 mC).1;((repeat'(first|refine Vc (X5 @gw @mC @eoi @NK (X5 @a7.eq_1 @fJ.eq_1 @cy @cM.{0} (X3 @bQ.{0} @bF.{0} @NH))) NJ ?_|(refine Xi ?_ ?_<;>try intro ht)|exact Xx|fail)))
   have pz:=(hL.I4 (y:=.gone) dZ mC).app [.arr 2 [a7 (fJ s)],.arr 2 (rowsOf a7 (xs++[fJ s]))];refine ba _ (k+1,ok.set oi .gone++[.arr 2 [a7 (fJ s)],.arr 2 (rowsOf a7 (xs++[fJ s]))],ok.length+1,xs++[fJ s]) ⟨PA,pz,(bm.set ui).app _,vA _ _ _ _ _,(hL.I4 (y:=.gone) dZ mC).fresh (by dsimp only;rw[bF];omega),by dsimp only;have:=bm.len;omega,CZ.symm⟩ PA ?_;exact Xv (X2 @a7.eq_1 @fJ.eq_1)
  ·rw[dJ GC]at dy;have pM:=(hL.base (os.length+1,.var (gC m ai bi D E)) GF).1;have vC:=(hL.base (bi,.arr 1 (rowsOf cW E)) GF).1;have ha3:=(a8.1 (hL.base (ai,.arr 1 (rowsOf cW D)) GF).1).1;dsimp only at pM vC ha3;have NL:=bg pM;have NM:=bg vC;have NN:=fP vC;have v3:(ok.set bi .gone)[os.length+1]?=some (.var (gC m ai bi D E)):=by rw[bR GC];exact pM
   have um:=bg v3;have NO:=fP v3;have dP:=hL.step mC dZ (by simp only[cB,kI,or_false,forall_eq_or_imp,forall_eq];omega) [.tree 1 (rowsOf bu m.cls),.tree 4 (rowsOf aP m.ae),.tree 4 (rowsOf aV m.av),aaC m.rules,.ref ai 1 0 D.length,.ref (ok.length+1) 1 0 (E.length+1)] (rowsOf cW (E++[(oi,xs.length)])) (.arr 1 [[.ref oi 2 0 xs.length]]);have NP:gC m ai (ok.length+1) D (E++[(oi,xs.length)])=[.tree 1 (rowsOf bu m.cls),.tree 4 (rowsOf aP m.ae),.tree 4 (rowsOf aV m.av),aaC m.rules,.ref ai 1 0 D.length,.ref (ok.length+1) 1 0 (E.length+1)]:=by simp[gC]
   have fX:=(a8.1 vC).1;((repeat'(first|refine Va X0 ?_|(refine Xi ?_ ?_<;>try intro ht)|exact Xx|fail)))
   refine bd _ _ rfl ?_;clear ba bd cJ;repeat(refine Xu ?_)
   refine Va (X5 @pM @vC @NL @NM (X5 @NN @um @NO @gC.eq_1 (X5 @I1 @cy @cM.{0} @bQ.{0} @bF.{0}))) ?_;refine an _ (i+1,_,ok.length+1,E++[(oi,xs.length)]) ⟨PA,aar,by dsimp only;rw[cN,<- dy,NP];exact dP,((bm.set GC).set GC).app _,PA,PA⟩ PA ?_;exact Xv X0
 rw[dJ (by unfold T0;rw[dX];omega)]at hL;((repeat'(first|refine Va X0 ?_|(refine Xi ?_ ?_<;>try intro ht)|exact Xx|fail)))
 refine ar _ _ rfl ?_;clear an ar Ql;repeat(refine Xu ?_)
 refine Vb X0 ?_;unfold gu;simp only[eF,ew];simp(disch:=omega)only[Ac,↓Pc,simprocAttr];refine⟨.ptr (os.length+1) 0 0,ob,⟨os.length+1,ai,bi,D,E,rfl,hL.swap.sub ?_,bm⟩,eu rfl bm.len rfl⟩;simp only[cB,kI,or_false];intro b hb;rcases hb with rfl|rfl|rfl<;>simp
def aaM{m:aj}(hm:VM m){gi ai bi:Nat}{D E:List (Nat×Nat)}{S T:List (List Nm)}{os:List Ob}(h:LO a7 (GB m gi ai bi D E) D E S T os){B:Int}(hg:LG m B (S,T)){left:List (List Bool)}(hf:dD m left)(c:Nat)(hc:c<m.cls.length):
  fh Tryz.prog 178 [.ptr gi 0 0,aaC c,.tree 1 (rowsOf aQ left)] os λr ob=>gI os ob/\∃ id,r=.ref id 2 0 (jc (S.getD c default) (left.getD c default)).length/\ob[id]?=some (.arr 2 (rowsOf a7 (jc (S.getD c default) (left.getD c default)))):=by
 obtain⟨fg,fa,fb⟩:=zL h;have hD:=h.rD.len;have jS:S.length=m.cls.length:=hg.s;have yn:=hm.cls;have fC:=hf.1;obtain⟨m5,zP⟩:=h.rD.row c GC;have AK:(S.getD c default).length=(m.cls.getD c default).length:=hg.sl c hc;have e7:=hf.2 c GC;have aaz:=hm.opt _ (ay (l:=m.cls) (i:=c) (d:=default) hc);generalize bq:S.getD c default=row at *;generalize lh:left.getD c default=lc at *;refine fh.aD 36 os.length [.tmp 6] Tryz.func178 ?_;refine Vb (X5 @fg @fa @gC.eq_1 @m5 @cW.eq_1) ?_;have AX:(D.getD c default).2=row.length:=zP.symm;refine aM (λz:Nat×List Ob×Nat×List Nm=>(⟨aw [(1,aaC c),(2,.tree 1 (rowsOf aQ left)),(7,.ref z.2.2.1 2 0 z.2.2.2.length),(16,.ref (D.getD c default).1 2 0 row.length),(17,aaC row.length),(18,aaC z.1)],z.2.1⟩:St))
  (λz=>z.1<=row.length/\gI os z.2.1/\z.2.1[z.2.2.1]?=some (.arr 2 (rowsOf a7 z.2.2.2))/\os.length<=z.2.2.1/\z.2.2.2=jc (row.take z.1) (lc.take z.1)/\z.2.2.2.length<=z.1)
  (λz=>row.length-z.1) (0,os++[.arr 2 []],os.length,[]) ⟨aI _,(gI.refl os).app _,kf _ _ _,aN _,rfl,aN _⟩ ?_ ?_
 ·refine aF.trans (aF.nil 7 2 (by simp only[Kc,simprocAttr]) Px) ?_;exact Xv @AX
 rintro⟨i,ob,ti,xs⟩⟨hi,bm,c9,g6,dy,rT⟩Ql an ar;dsimp only at hi bm c9 g6 dy rT ⊢;have r1:=bm _ _ m5;have Jg:=bg r1;have n9:=bg c9;have FE:=fP c9;have nW:=(a8.1 c9).1;by_cases hi':i<row.length
 ·have h1:=eG hi';have h2:=eG (l:=lc) (k:=i) GC;have h3:=Nq (row.getD i default) (lc.getD i default) (row.take i) (lc.take i) (by rw[eN,eN];omega);rw[<- h1,<- h2,<- dy]at h3;have tD:lc.getD i default=lc.getD i false:=rfl;rw[tD]at h3;generalize b6:row.getD i default=p at *;generalize Bf:lc.getD i false=is at *;cases is
  ·simp only[jQ,if_false,g9]at h3;((repeat'(first|refine Va (X5 @r1 @Jg @a7.eq_1 @b6 (X4 @lh @Bf @aQ.eq_1 @cy)) ?_|(refine Xi ?_ ?_<;>try intro ht)|exact Xx|fail)))
   refine an _ (i+1,ob++[.var (a7 p)],ti,xs) ⟨PA,bm.app _,n9 _,g6,h3.symm,PA⟩ PA ?_;exact Xv X0
  ·simp only[if_true]at h3;have NQ:rowsOf a7 xs++[[AV.lit (.int .i64 p.1),.lit (.bool p.2)]]=rowsOf a7 (xs++[p]):=by simp[rowsOf,a7]
   ((repeat'(first|refine Va (X5 @r1 @Jg @c9 @n9 (X5 @FE @a7.eq_1 @b6 @lh (X5 @Bf @aQ.eq_1 @NQ @cy (X3 @cM.{0} @bQ.{0} @bF.{0})))) ?_|(refine Xi ?_ ?_<;>try intro ht)|exact Xx|fail)))
   refine an _ (i+1,ob.set ti .gone++[.var (a7 p),.arr 2 [a7 p],.arr 2 (rowsOf a7 (xs++[p]))],ob.length+2,xs++[p]) ⟨PA,(bm.set g6).app _,vA _ _ _ _ _,by dsimp only;have:=bm.len;omega,h3.symm,aar⟩ PA ?_;exact Xv @a7.eq_1
 ·rw[dJ GC,dJ GC]at dy;((repeat'(first|refine Va X0 ?_|(refine Xi ?_ ?_<;>try intro ht)|exact Xx|fail)))
  refine ar _ _ rfl ?_;clear an ar Ql;repeat(refine Xu ?_)
  refine Vb X0 ?_;unfold gu;simp only[eF,ew];simp(disch:=omega)only[Ac,↓Pc,simprocAttr];rw[<- dy];exact⟨_,_,⟨bm,ti,rfl,c9⟩,eu rfl bm.len rfl⟩
def aaN {m:aj} (hm:VM m) {gi ai bi:Nat} {D E:List (Nat×Nat)} {S T:List (List Nm)} {os:List Ob} (h:LO a7 (GB m gi ai bi D E) D E S T os) {B:Int} (hg:LG m B (S,T)) {left:List (List Bool)} (hf:dD m left) (c:Nat) (hc:c<m.ae.length) :
    fh Tryz.prog 179 [.ptr gi 0 0,aaC c,.tree 1 (rowsOf aQ left)] os λr ob=>gI os ob/\∃ id,r=.ref id 2 0 (jc (T.getD c default) (gZ m left c)).length/\ob[id]?=some (.arr 2 (rowsOf a7 (jc (T.getD c default) (gZ m left c)))):=by
  obtain ⟨fg,fa,fb⟩:=zL h
  have eg:=bg fg
  have ea:=bg fa
  have eb:=bg fb
  have hD:=h.rD.len
  have hE:=h.rE.len
  have jS:S.length=m.cls.length:=hg.s
  have C1:T.length=m.ae.length:=hg.t
  have yn:=hm.cls
  have s5:=hm.ae
  have fC:=hf.1
  obtain ⟨te,FF⟩:=h.rE.row c GC
  have zo:(T.getD c default).length=(m.ae.getD c default).aB.length:=hg.tl c hc
  have dE:=iA hm.pr _ (ay (d:=default) hc)
  obtain ⟨NR,NS,NT,FG⟩:=FH dE
  have nW:=Bh dE hm
  have AZ:=hf.2 (m.ae.getD c default).fst.toNat GC
  have vq:=hf.2 (m.ae.getD c default).snd.toNat GC
  have hoa:=hm.opt _ (ay (l:=m.cls) (i:=(m.ae.getD c default).fst.toNat) (d:=default) GC)
  have bk:=hm.opt _ (ay (l:=m.cls) (i:=(m.ae.getD c default).snd.toNat) (d:=default) GC)
  obtain ⟨Jh,NU⟩:=h.rD.row (m.ae.getD c default).snd.toNat GC
  have FI:(S.getD (m.ae.getD c default).snd.toNat default).length=(m.cls.getD (m.ae.getD c default).snd.toNat default).length:=hg.sl _ GC
  have NV:gZ m left c=sk (left.getD (m.ae.getD c default).fst.toNat default) (left.getD (m.ae.getD c default).snd.toNat default):=rfl
  have wU:=Fi (left.getD (m.ae.getD c default).snd.toNat default) (left.getD (m.ae.getD c default).fst.toNat default)
  have hbg:=IF (left.getD (m.ae.getD c default).snd.toNat default) (left.getD (m.ae.getD c default).fst.toNat default)
  rw[<- NV] at wU hbg
  generalize bq:T.getD c default=row at *
  generalize b6:m.ae.getD c default=p at *
  generalize FJ:left.getD p.fst.toNat default=la at *
  generalize FL:left.getD p.snd.toNat default=lb at *
  generalize gZ m left c=pb at *
  have FM:(D.getD p.snd.toNat default).2=lb.length:=by rw[<- NU,FI,vq]
  have bd:row.length=pb.length:=by
    rw[wU,AZ,vq,zo]
    have:=FG
    rw[<- Int.natCast_mul] at this
    exact Int.ofNat_inj.1 this
  have AX:(E.getD c default).2=row.length:=FF.symm
  have qp:=bg Jh
  have qe:=bg te
  refine fh.aD 70 os.length [.tmp 6] Tryz.func179 ?_
  (((refine Vb (X5 @fg @fa @fb @eg (X5 @ea @eb @gC.eq_1 @Jh (X5 @qp @te @qe @cW.eq_1 (X5 @b6 @aP.eq_1 @cy @FM @AX)))) ?_)))
  refine aM (λz:Nat×List Ob×Nat×List Nm=>(⟨aw [(2,.tree 1 (rowsOf aQ left)),(7,.ptr os.length 0 0),(8,aaC lb.length),(9,.ref z.2.2.1 2 0 z.2.2.2.length),(35,.ref (E.getD c default).1 2 0 row.length),(36,aaC row.length),(37,aaC z.1)],z.2.1⟩:St))
    (λz=>z.1<=row.length/\gI (os++[.var (aP p)]) z.2.1/\z.2.1[z.2.2.1]?=some (.arr 2 (rowsOf a7 z.2.2.2))/\os.length<z.2.2.1/\z.2.2.2=jc (row.take z.1) (pb.take z.1)/\z.2.2.2.length<=z.1)
    (λz=>row.length - z.1) (0,(os++[.var (aP p)])++[.arr 2 []],(os++[Ob.var (aP p)]).length,[]) ⟨aI _,(gI.refl _).app _,kf _ _ _,GF,rfl,aN _⟩ ?_ ?_
  · refine aF.trans (aF.nil 9 2 (by simp only[Kc,simprocAttr]) Px) ?_
    exact Xv (X2 @AX @FM)
  rintro ⟨i,ob,ti,xs⟩ ⟨hi,bm,c9,g6,dy,rT⟩ Ql an ar
  dsimp only at hi bm c9 g6 dy rT ⊢
  have r1:=bm _ _ (qe [.var (aP p)])
  have rv:ob[os.length]?=some (.var (aP p)):=bm _ _ (kf _ _ _)
  have Jg:=bg r1
  have erv:=bg rv
  have n9:=bg c9
  have FE:=fP c9
  have EH:=(a8.1 c9).1
  have cI:=bm.len
  rw[bQ,yF] at cI
  by_cases hi':i<row.length
  · have h1:=eG hi'
    have h2:=eG (l:=pb) (k:=i) GC
    have h3:=Nq (row.getD i default) (pb.getD i default) (row.take i) (pb.take i) (by rw[eN,eN];omega)
    rw[<- h1,<- h2,<- dy] at h3
    have tD:pb.getD i default=(la.getD (i / lb.length) false && lb.getD (i % lb.length) false):=hbg i GC
    rw[tD] at h3
    have aaP:0<lb.length:=by
      rcases m9 lb.length with h0 | h0
      · rw[h0,Nat.mul_zero] at wU;omega
      · exact h0
    have hdiv:i / lb.length<la.length:=by rw[Nat.div_lt_iff_lt_mul aaP];omega
    have y9:=Nat.mod_lt i aaP
    have hq:((i:Int).tdiv lb.length)=((i / lb.length:Nat):Int):=by rw[Int.tdiv_eq_ediv_of_nonneg GC];simp
    have hr:((i:Int).tmod lb.length)=((i % lb.length:Nat):Int):=by rw[Int.tmod_eq_emod_of_nonneg GC];simp
    have wE:((i:Int) / (lb.length:Int))=((i / lb.length:Nat):Int):=GF
    have gF:((i:Int) % (lb.length:Int))=((i % lb.length:Nat):Int):=GF
    generalize hdd:i / lb.length=dd at *
    generalize xR:i % lb.length=mm at *
    generalize pj:row.getD i default=q at *
    generalize D5:la.getD dd false=ia at *
    generalize Ll:lb.getD mm false=ib at *
    have NQ:rowsOf a7 xs++[[AV.lit (.int .i64 q.1),.lit (.bool q.2)]]=rowsOf a7 (xs++[q]):=by simp[rowsOf,a7]
    cases ia<;>cases ib
    all_goals
      simp only[Bool.false_and,Bool.true_and,jQ,if_false,if_true,g9] at h3
      ((repeat' (first|refine Va (X5 @r1 @Jg @rv @erv (X5 @c9 @n9 @FE @a7.eq_1 (X5 @aP.eq_1 @pj @FJ @FL (X5 @hq @hr @wE @gF (X5 @D5 @Ll @aQ.eq_1 @NQ (X5 @cy @Int.toNat_natCast @cM.{0} @bQ.{0} @bF.{0})))))) ?_|(refine Xi ?_ ?_<;>try intro ht)|exact Xx|fail)))
    all_goals first
      | (refine an _ (i+1,ob++[.var (a7 q)],ti,xs) ⟨PA,bm.app _,n9 _,g6,h3.symm,PA⟩ PA ?_
         exact Xv @a7.eq_1;done)
      | (refine an _ (i+1,ob.set ti .gone++[.var (a7 q),.arr 2 [a7 q],.arr 2 (rowsOf a7 (xs++[q]))],ob.length+2,xs++[q]) ⟨PA,(bm.set (by rw[bQ,yF];omega)).app _,vA _ _ _ _ _,PA,h3.symm,aar⟩ PA ?_
         exact Xv @a7.eq_1;done)
  · rw[dJ GC,dJ GC] at dy
    ((repeat' (first|refine Va X0 ?_|(refine Xi ?_ ?_<;>try intro ht)|exact Xx|fail)))
    refine ar _ _ rfl ?_;clear an ar Ql
    repeat (refine Xu ?_)
    refine Vb X0 ?_
    unfold gu
    simp only[eF,ew]
    simp (disch:=omega) only[Ac,↓Pc,simprocAttr]
    rw[<- dy]
    refine⟨_,ob,⟨λk o hk=>bm k o (bg hk _),ti,rfl,c9⟩,eu rfl GC rfl⟩
def aaR(xs:List Nm)(q:Nm):rowsOf a7 xs++[[AV.lit (.int .i64 q.1),.lit (.bool q.2)]]=rowsOf a7 (xs++[q]):=by simp[rowsOf,a7]
def ajO{m:aj}(hm:VM m){gi ai bi:Nat}{D E:List (Nat×Nat)}{S T:List (List Nm)}{os:List Ob}(h:LO a7 (GB m gi ai bi D E) D E S T os)(hg:LG m jM (S,T)){left:List (List Bool)}(hf:dD m left):
  fh Tryz.prog 135 [.ptr gi 0 0,.tree 1 (rowsOf aQ left)] os λr ob=>r=aaC (oR m left (S,T))/\os.length<=ob.length:=by
 obtain⟨fg,fa,fb⟩:=zL h;have eg:=bg fg;have ea:=bg fa;have eb:=bg fb;have hD:=h.rD.len;have hE:=h.rE.len;have jS:S.length=m.cls.length:=hg.s;have C1:T.length=m.ae.length:=hg.t;have yn:=hm.cls;have s5:=hm.ae;have zr:=hm.av;have fC:=hf.1;rw[Za];refine fh.aD 80 os.length [.tmp 4] Tryz.func135 ?_;refine Vb (X3 @fg @fa @gC.eq_1) ?_;have yo:D.length=m.cls.length:=GC;refine aM (λz:Nat×List Ob×Nat×List Nm=>(⟨aw [(0,.ptr gi 0 0),(1,.tree 1 (rowsOf aQ left)),(5,.ref z.2.2.1 2 0 z.2.2.2.length),(17,aaC m.cls.length),(18,aaC z.1)],z.2.1⟩:St))
  (λz=>z.1<=m.cls.length/\gI os z.2.1/\z.2.1[z.2.2.1]?=some (.arr 2 (rowsOf a7 z.2.2.2))/\os.length<=z.2.2.1/\z.2.2.2=(PC left S z.1).map pt)
  (λz=>m.cls.length-z.1) (0,os++[.arr 2 []],os.length,[]) ⟨aI _,(gI.refl _).app _,kf _ _ _,aN _,rfl⟩ ?_ ?_
 ·refine aF.trans (aF.nil 5 2 (by simp only[Kc,simprocAttr]) Px) ?_;exact Xv @yo
 rintro⟨i,ob,ti,ps⟩⟨hi,bm,c9,g6,dN⟩Ql an ar;dsimp only at hi bm c9 g6 dN ⊢;have cu:ps.length=i:=by rw[dN,dX,wP]
 by_cases hi':i<m.cls.length
 ·have kA:=aaM hm (h.az bm) hg hf i hi';have dP:(PC left S (i+1)).map pt=ps++[p5 (jc (S.getD i default) (left.getD i default))]:=by
   rw[show PC left S (i+1)=PC left S i++[dQ (S.getD i default) (left.getD i default) (0,false)] from wL _ i,fW,<- dN,IG];rfl
  have wV:=Jf (jc (S.getD i default) (left.getD i default)) (by have:=Fa (S.getD i default) (left.getD i default);have:=hg.sl i hi';have:=hm.opt _ (ay (d:=default) hi');dsimp only at *;omega);generalize jc (S.getD i default) (left.getD i default)=Bi at *;generalize p5 Bi=q at *;repeat'(first|((fail_if_success (first|refine eT 5 ?_|refine eU 5 ?_));refine Xr X0 ?_;intro K hK)|(refine hK _ ?_;clear hK K)|(refine Xi ?_ ?_<;>try intro ht)|refine Xy ?_|exact Xx|fail)
  refine pe 4 Px _ rfl ?_;intro K hK;simp(disch:=omega)only[Ac,↓Pc,simprocAttr,kL,iT];refine⟨rfl,(show lP Tryz.prog 178 [.ptr gi 0 0,aaC i,.tree 1 (rowsOf aQ left)] (some 25) _ _ from ?_)⟩;refine rP kA ?_;rintro r uo⟨b9,id,rfl,dt⟩;refine⟨b9.len,?_⟩;have q6:=b9 _ _ c9;have Bj:=bg q6;have Bk:=fP q6;have cI:=(bm.trans b9).len;simp(disch:=omega)only[Ac,↓Pc,simprocAttr,iT];refine nM [] wV GF trivial ⟨aJ.fz dt (by rw[b8]) GF,trivial⟩ rfl GF ?_;simp(disch:=omega)only[Ac,↓Pc,simprocAttr,q6,Bj,Bk,a7,aaR,cy,cM,bQ,bF];repeat'(first|with_reducible refine eR ?_ ?_|omega)
  refine hK _ ?_;clear hK K;repeat(refine Xu ?_)
  refine Va X0 ?_;refine an _ (i+1,uo.set ti .gone++[.arr 2 [a7 q],.arr 2 (rowsOf a7 (ps++[q]))],uo.length+1,ps++[q]) ⟨PA,((bm.trans b9).set g6).app _,vA _ _ _ _ _,PA,dP.symm⟩ PA ?_;exact Xv @a7.eq_1
 have Bl:i=m.cls.length:=GC;rw[Bl]at dN;have kg:=bm _ _ fg;have kb:=bm _ _ fb;have NW:E.length=m.ae.length:=GC;((repeat'(first|refine Va X0 ?_|(refine Xi ?_ ?_<;>try intro ht)|exact Xx|fail)))
 refine ar _ _ rfl ?_;clear an ar Ql;repeat(refine Xu ?_)
 refine Va (X3 @kg @kb @gC.eq_1) ?_;refine aM (λz:Nat×List Ob×Nat×List Nm=>(⟨aw [(0,.ptr gi 0 0),(1,.tree 1 (rowsOf aQ left)),(5,.ref z.2.2.1 2 0 z.2.2.2.length),(34,aaC m.ae.length),(35,aaC z.1)],z.2.1⟩:St))
  (λz=>z.1<=m.ae.length/\gI os z.2.1/\z.2.1[z.2.2.1]?=some (.arr 2 (rowsOf a7 z.2.2.2))/\os.length<=z.2.2.1/\z.2.2.2=(PC left S m.cls.length++PP m left T z.1).map pt)
  (λz=>m.ae.length-z.1) (0,ob,ti,ps) ⟨aI _,bm,c9,g6,by rw[dN];simp[PP]⟩ (Xv @NW) ?_
 clear bm c9 g6 dN cu Bl kg kb hi hi' ti ps;rintro⟨i,ob,ti,ps⟩⟨hi,bm,c9,g6,dN⟩Ql an ar;dsimp only at hi bm c9 g6 dN ⊢;have cu:ps.length=m.cls.length+i:=by rw[dN,dX,bQ,wP,zK]
 by_cases hi':i<m.ae.length
 ·have kA:=aaN hm (h.az bm) hg hf i hi';have dP:(PC left S m.cls.length++PP m left T (i+1)).map pt=ps++[p5 (jc (T.getD i default) (gZ m left i))]:=by
   rw[show PP m left T (i+1)=PP m left T i++[dQ (T.getD i default) (gZ m left i) (0,false)] from wL _ i,<- cM,fW,<- dN,IG];rfl
  have wV:=Jf (jc (T.getD i default) (gZ m left i)) (by have:=Fa (T.getD i default) (gZ m left i);have:=hg.tl i hi';have:=Bh (iA hm.pr _ (ay (d:=default) hi')) hm;dsimp only at *;omega);generalize jc (T.getD i default) (gZ m left i)=Bi at *;generalize p5 Bi=q at *;repeat'(first|((fail_if_success (first|refine eT 10 ?_|refine eU 10 ?_));refine Xr X0 ?_;intro K hK)|(refine hK _ ?_;clear hK K)|(refine Xi ?_ ?_<;>try intro ht)|refine Xy ?_|exact Xx|fail)
  refine pe 4 Px _ rfl ?_;intro K hK;simp(disch:=omega)only[Ac,↓Pc,simprocAttr,kL,iT];refine⟨rfl,(show lP Tryz.prog 179 [.ptr gi 0 0,aaC i,.tree 1 (rowsOf aQ left)] (some 42) _ _ from ?_)⟩;refine rP kA ?_;rintro r uo⟨b9,id,rfl,dt⟩;refine⟨b9.len,?_⟩;have q6:=b9 _ _ c9;have Bj:=bg q6;have Bk:=fP q6;have cI:=(bm.trans b9).len;simp(disch:=omega)only[Ac,↓Pc,simprocAttr,iT];refine nM [] wV GF trivial ⟨aJ.fz dt (by rw[b8]) GF,trivial⟩ rfl GF ?_;simp(disch:=omega)only[Ac,↓Pc,simprocAttr,q6,Bj,Bk,a7,aaR,cy,cM,bQ,bF];repeat'(first|with_reducible refine eR ?_ ?_|omega)
  refine hK _ ?_;clear hK K;repeat(refine Xu ?_)
  refine Va X0 ?_;refine an _ (i+1,uo.set ti .gone++[.arr 2 [a7 q],.arr 2 (rowsOf a7 (ps++[q]))],uo.length+1,ps++[q]) ⟨PA,((bm.trans b9).set g6).app _,vA _ _ _ _ _,PA,dP.symm⟩ PA ?_;exact Xv @a7.eq_1
 have Bm:i=m.ae.length:=GC;rw[Bm]at dN;have kg:=bm _ _ fg;((repeat'(first|refine Va X0 ?_|(refine Xi ?_ ?_<;>try intro ht)|exact Xx|fail)))
 refine ar _ _ rfl ?_;clear an ar Ql;repeat(refine Xu ?_)
 refine Va (X2 @kg @gC.eq_1) ?_;refine aM (λz:Nat×List Ob×Nat×List Nm=>(⟨aw [(1,.tree 1 (rowsOf aQ left)),(5,.ref z.2.2.1 2 0 z.2.2.2.length),(51,.tree 4 (rowsOf aV m.av)),(52,aaC m.av.length),(53,aaC z.1)],z.2.1⟩:St))
  (λz=>z.1<=m.av.length/\gI os z.2.1/\z.2.1[z.2.2.1]?=some (.arr 2 (rowsOf a7 z.2.2.2))/\os.length<=z.2.2.1/\z.2.2.2=(PC left S m.cls.length++PP m left T m.ae.length++PK m left z.1).map pt)
  (λz=>m.av.length-z.1) (0,ob,ti,ps) ⟨aI _,bm,c9,g6,by rw[dN];simp[PK]⟩ (Xv X0) ?_
 clear bm c9 g6 dN cu Bm kg hi hi' ti ps;rintro⟨i,ob,ti,ps⟩⟨hi,bm,c9,g6,dN⟩Ql an ar;dsimp only at hi bm c9 g6 dN ⊢;have cu:ps.length=m.cls.length+m.ae.length+i:=by rw[dN,dX,bQ,bQ,wP,zK,CQ]
 by_cases hi':i<m.av.length
 ·have fi:=ay (d:=default) hi';obtain⟨q1,q2,q3,q4⟩:=Nz hm hf fi;have h1:=ai8 (m.av.getD i default) left left.length (aN _) q1 GC (λr hr=>by have:=hf.row hm r hr;omega) GC q2 q3;have h2:=NA (jJ left (m.av.getD i default));have dP:(PC left S m.cls.length++PP m left T m.ae.length++PK m left (i+1)).map pt=ps++[fJ (jJ left (m.av.getD i default))]:=by
   rw[show PK m left (i+1)=PK m left i++[(jJ left (m.av.getD i default),!(decide ((m.av.getD i default).bM=1099511627776)&&decide (0<jJ left (m.av.getD i default))))] from wL _ i,<- cM,fW,<- dN];congr 1;simp only[List.map_cons,kJ,pt,fJ,Bool.not_not];rw[aij hm fC fi (λx hx=>(q1 x hx).2)]
  have n9:=bg c9;have FE:=fP c9;have nW:=(a8.1 c9).1;have cI:=bm.len;generalize jJ left (m.av.getD i default)=v at *;generalize aR:m.av.getD i default=c at *;((repeat'(first|refine Vc (X5 @c9 @n9 @FE @aR (X5 @aV.eq_1 @a7.eq_1 @fJ.eq_1 @NH (X4 @cy @cM.{0} @bQ.{0} @bF.{0}))) (X2 h1 h2) ?_|(refine Xi ?_ ?_<;>try intro ht)|exact Xx|fail)))
  refine an _ (i+1,ob.set ti .gone++[.var (aV c),.arr 2 [a7 (fJ v)],.arr 2 (rowsOf a7 (ps++[fJ v]))],ob.length+2,ps++[fJ v]) ⟨PA,(bm.set g6).app _,vA _ _ _ _ _,PA,dP.symm⟩ PA ?_;exact Xv (X3 @a7.eq_1 @fJ.eq_1 @aV.eq_1)
 have FN:i=m.av.length:=GC;rw[FN]at dN cu;rw[show PC left S m.cls.length++PP m left T m.ae.length++PK m left m.av.length=qW m left (S,T) from rfl]at dN;have FI:(qW m left (S,T)).length=m.cls.length+m.ae.length+m.av.length:=by unfold qW;rw[bQ,bQ,wP,zK,CQ]
 have FO:∀ p∈qW m left (S,T),-jM<=p.1/\p.1<=jM:=λp hp=>by
  unfold qW at hp;rw[cH,cH]at hp;rcases hp with(hp|hp)|hp
  ·exact IT (by unfold jM;decide) hg.sb _ p hp
  ·exact IU (by unfold jM;decide) hg.tb _ p hp
  ·have:=IV hm _ p hp;unfold jM;omega
 generalize qW m left (S,T)=P at *;((repeat'(first|refine Va X0 ?_|(refine Xi ?_ ?_<;>try intro ht)|exact Xx|fail)))
 refine ar _ _ rfl ?_;clear an ar Ql;repeat(refine Xu ?_)
 refine Va @c9 ?_;refine aM (λz:Nat×List Ob=>(⟨aw [(10,aaC (cf (P.take z.1) (0,false)).1),(65,.ref ti 2 0 ps.length),(66,aaC ps.length),(67,aaC z.1)],z.2⟩:St))
  (λz=>z.1<=P.length/\gI os z.2/\z.2[ti]?=some (.arr 2 (rowsOf a7 ps))/\(cf (P.take z.1) (0,false)).2=false)
  (λz=>P.length-z.1) (0,ob) ⟨aI _,bm,c9,rfl⟩ (Xv (X3 @kK.{0} @cf.eq_1 @yJ.{0,0})) ?_
 clear bm c9;rintro⟨j,ob⟩⟨hj,bm,c9,yp⟩Ql an ar;dsimp only at hj bm c9 yp ⊢;have cI:=bm.len;have ajP:ps.length=P.length:=by rw[dN,dX]
 by_cases db:j<P.length
 ·have im:=eG db;have mi:=A6 (P.take j) (P.getD j default) (0,false);rw[<- im,yp,Bool.false_or]at mi;have tO:ps.getD j default=pt (P.getD j default):=by rw[dN,iR _ _ _ db]
  have jH:=yh (P.take j) (0,false) (λp hp=>FO p (sA hp));rw[eN,pC hj]at jH;have FQ:=FO _ (ay (d:=default) db);have NX:=ay (l:=P) (d:=default) db;unfold jM at jH FQ;dsimp only at jH;generalize (cf (P.take j) (0,false)).1=s at *;generalize P.getD j default=q at *;obtain⟨v,b⟩:=q;unfold pt at tO;dsimp only at tO mi FQ;have n9:=bg c9;cases b
  ·have vx:(cf P (0,false)).2=true:=(M5 P 0).2 ⟨_,NX,rfl⟩;((repeat'(first|refine Va (X5 @c9 @n9 @tO @a7.eq_1 (X2 @cy @je)) ?_|(refine Xi ?_ ?_<;>try intro ht)|exact Xx|fail)))
   repeat(refine Xu ?_)
   ((skip))
   unfold gu;simp only[eF,ew];simp(disch:=omega)only[Ac,↓Pc,simprocAttr];rw[if_pos vx];exact⟨_,_,⟨rfl,by rw[bQ];omega⟩,eu rfl (by rw[bQ];omega) rfl⟩
  ·((repeat'(first|refine Va (X5 @c9 @n9 @tO @a7.eq_1 (X2 @cy @Bool.not_true)) ?_|(refine Xi ?_ ?_<;>try intro ht)|exact Xx|fail)))
   refine an _ (j+1,_) ⟨PA,bm.app [.var (a7 (v,false))],n9 _,by rw[mi];rfl⟩ PA ?_;simp only[mi];exact Xv @a7.eq_1
 ·rw[dJ GC]at yp;have NY:¬ (cf P (0,false)).2=true:=by rw[yp];simp
  ((repeat'(first|refine Va (dJ (show P.length<=j by omega)) ?_|(refine Xi ?_ ?_<;>try intro ht)|exact Xx|fail)))
  refine ar _ _ rfl ?_;clear an ar Ql;repeat(refine Xu ?_)
  refine Vb X0 ?_;unfold gu;simp only[eF,ew];simp(disch:=omega)only[Ac,↓Pc,simprocAttr];rw[if_neg NY];exact⟨_,ob,⟨rfl,cI⟩,eu rfl cI rfl⟩
def LG.mono{m:aj}{B C:Int}{g:Lg}(h:LG m B g)(hc:B<=C):LG m C g:=⟨h.s,h.t,h.sl,h.tl,λr hr=>(h.sb r hr).mono hc,λr hr=>(h.tb r hr).mono hc⟩
def ajQ(m:aj)(left:List (List Bool))(l:List Mv)(hm:VM m)(hf:dD m left)(hl:l.length<9223372036854775808):ao Tryz.prog 77 [.agg (aq m),.tree 1 (rowsOf aQ left),.tree 4 (rowsOf ca l)] [] (.bJ [aaC (iC m left l).1,aaC (iC m left l).2]) []:=by
 generalize ak:iC m left l=res;unfold iC at ak;refine ao.aD 33 0 [.tmp 6,.tmp 7] Tryz.func77 ?_;by_cases hlen:2000<l.length
 ·rw[if_pos hlen]at ak;subst ak;((repeat'(first|refine Vb X0 ?_|(refine Xi ?_ ?_<;>try intro ht)|exact Xx|fail)))
  all_goals exact aE rfl rfl
 rw[if_neg hlen]at ak;repeat'(first|((fail_if_success (first|refine eT 3 ?_|refine eU 3 ?_));refine Xr X0 ?_;intro K hK)|(refine hK _ ?_;clear hK K)|(refine Xi ?_ ?_<;>try intro ht)|refine XY ?_|exact Xx|fail)
 refine pe 1 Px _ rfl ?_;intro K hK;simp(disch:=omega)only[Ac,↓Pc,simprocAttr,kL,iT];refine⟨rfl,(show lP Tryz.prog 132 [.agg (aq m)] (some 15) _ _ from ?_)⟩;refine rP (aaH hm [.var (aq m)]) ?_;rintro r os⟨gi,ai,bi,D,E,rfl,gJ,bm⟩;refine⟨bm.len,?_⟩;have f0:=bm 0 _ rfl;simp(disch:=omega)only[Ac,↓Pc,simprocAttr,iT];refine hK _ ?_;clear hK K;repeat(refine Xu ?_)
 refine Va X0 ?_;refine aM (λz:Nat×List Ob=>(⟨aw [(1,.tree 1 (rowsOf aQ left)),(8,.ptr gi 0 0),(16,.tree 4 (rowsOf ca l)),(17,aaC l.length),(18,aaC z.1)],z.2⟩:St))
  (λz=>z.1<=l.length/\LO a7 (GB m gi ai bi D E) D E (jd m (l.take z.1) (S0 m,T0 m)).1 (jd m (l.take z.1) (S0 m,T0 m)).2 z.2/\∀ x∈l.take z.1,jL m x=true)
  (λz=>l.length-z.1) (0,os) ⟨aI _,gJ,GF⟩ (Xv X0) ?_
 clear gJ bm f0;rintro⟨i,ob⟩⟨hi,gJ,dF⟩Ql an ar;dsimp only at hi gJ dF ⊢;have jG:=(Fh hm (l.take i) dF);rw[eN,pC hi]at jG;by_cases hi':i<l.length
 ·have cN:jd m (l.take (i+1)) (S0 m,T0 m)=kC m (l.getD i default) (jd m (l.take i) (S0 m,T0 m)):=by rw[eG hi',ZQ]
  have im:=eG hi';have bO:=ay (d:=default) hi';generalize jd m (l.take i) (S0 m,T0 m)=g at *;generalize aS:l.getD i default=x at *;have hval:=ajR hm (gJ.app [.var (ca x)]) jG x;have anY:ob.length<(ob++[Ob.var (ca x)]).length:=GF;have hvx:(ob++[Ob.var (ca x)])[ob.length]?=some (.var (ca x)):=kf _ _ _;repeat'(first|((fail_if_success (first|refine eT 7 ?_|refine eU 7 ?_));refine Xr (X3 @aS @ca.eq_1 @cy) ?_;intro K hK)|(refine hK _ ?_;clear hK K)|(refine Xi ?_ ?_<;>try intro ht)|refine Xy ?_|refine Xd ?_ ?_|exact Xx|fail)
  refine pe 2 Px _ rfl ?_;intro K hK;simp(disch:=omega)only[Ac,↓Pc,simprocAttr,kL,iT,cy];refine⟨rfl,(show lP Tryz.prog 133 [.ptr gi 0 0,.agg (ca x)] (some 24) _ _ from ?_)⟩;refine rP hval ?_;rintro r uo⟨rfl,lx,rfl⟩;refine⟨GF,?_⟩;simp(disch:=omega)only[Ac,↓Pc,simprocAttr,iT];refine hK _ ?_;clear hK K;repeat(refine Xu ?_)
  by_cases hx:jL m x=true
  ·rw[hx];have wW:=ajT hm (gJ.app (.var (ca x)::lx)) (B:=1099511627776+268435456*25*i) GC jG x hx;have evx:=bg hvx;repeat'(first|(refine Xi ?_ ?_<;>try intro ht)|refine Xy ?_|exact Xx|fail)
   refine pe 2 Px _ rfl ?_;intro K hK;simp(disch:=omega)only[Ac,↓Pc,simprocAttr,kL,iT,cy,ca,cM];refine⟨rfl,(show lP Tryz.prog 134 [.ptr gi 0 0,.agg (ca x)] (some 28) _ _ from ?_)⟩;refine rP wW ?_;rintro r NZ⟨rfl,yq,rN⟩;refine⟨rN,?_⟩;simp(disch:=omega)only[Ac,↓Pc,simprocAttr,iT];refine hK _ ?_;clear hK K;repeat(refine Xu ?_)
   refine Va X0 ?_;refine an _ (i+1,NZ) ⟨PA,by rw[cN];exact yq,λy hy=>by
    dsimp only at hy;rw[im]at hy;rcases cH.1 hy with hy|hy
    ·exact dF y hy
    ·simp only[fE]at hy;subst hy;exact hx⟩ PA ?_
   exact Xv X0
  ·have dw:jL m x=false:=by simpa using hx
   rw[dw];rw[if_pos (by rw[List.all_eq_false];exact⟨x,bO,hx⟩)]at ak;((repeat'(first|refine Va @je ?_|(refine Xi ?_ ?_<;>try intro ht)|exact Xx|fail)))
   repeat(refine Xu ?_)
   refine Vb X0 ?_;exact aE rfl (by rw[<- ak])
 ·rw[dJ GC]at gJ jG dF;rw[if_neg (by rw[Bool.not_eq_false];exact fT.2 dF)]at ak;generalize jd m l (S0 m,T0 m)=g at *;obtain⟨g1,g2⟩:=g;dsimp only at gJ;have hval:=ajO hm gJ (jG.mono (by unfold jM;omega)) hf;((repeat'(first|refine Va X0 ?_|(refine Xi ?_ ?_<;>try intro ht)|exact Xx|fail)))
  refine ar _ _ rfl ?_;clear an ar Ql;repeat(refine Xu ?_)
  refine Xy ?_;refine pe 2 Px _ rfl ?_;intro K hK;simp(disch:=omega)only[Ac,↓Pc,simprocAttr,kL,iT];refine⟨rfl,(show lP Tryz.prog 135 [.ptr gi 0 0,.tree 1 (rowsOf aQ left)] (some 32) _ _ from ?_)⟩;refine rP hval ?_;rintro r NZ⟨rfl,rN⟩;refine⟨rN,?_⟩;simp(disch:=omega)only[Ac,↓Pc,simprocAttr,iT];refine hK _ ?_;clear hK K;repeat(refine Xu ?_)
  subst ak;refine Vb X0 ?_;exact aE rfl rfl
def Ji:IntKind.u64.min=0:=rfl
def Jj:IntKind.u64.max=18446744073709551615:=rfl
def ajU:IntKind.u64.bits=64:=rfl
def p32:(2:Int)^(32:Nat)=4294967296:=rfl
def ajW{n:Int}(h:0<=n/\n<=18446744073709551615):IntKind.u64.wrap n=n:=yZ h
def ajX{n:Int}(h : -9223372036854775808<=n/\n<=9223372036854775807):IntKind.i64.wrap n=n:=yZ h
def ajY{a:Int}(h:0<=a/\a<=18446744073709551615):Cb .u64 a 4294967295=a%4294967296:=by
 unfold Cb;have e:(BitVec.ofInt IntKind.u64.bits a &&& BitVec.ofInt IntKind.u64.bits 4294967295).toNat=a.toNat%4294967296:=by
  rw[BitVec.toNat_and,BitVec.toNat_ofInt,BitVec.toNat_ofInt];have h1:(a%((2^IntKind.u64.bits:Nat):Int)).toNat=a.toNat:=by rw[Int.emod_eq_of_lt h.1 (by show a<18446744073709551616;omega)]
  have h2:((4294967295:Int)%((2^IntKind.u64.bits:Nat):Int)).toNat=2^32-1:=Px;rw[h1,h2,Nat.and_two_pow_sub_one_eq_mod]
 rw[e];rw[yZ (by simp only[Ji,Jj];omega)];omega
def unI:Tryz.prog.underlying 3=some (.int .i64):=by kernel_rfl
def unU:Tryz.prog.underlying 238=some (.int .u64):=by kernel_rfl
def aj1(y:Int)(hy:0<=y/\y<=9223372036854775807):ao Tryz.prog 199 [.lit (.int .u64 1),.lit (.int .u64 y)] [] (.bJ [.lit (.int .u64 0),.lit (.int .u64 y)]) []:=by
 refine ao.aD 51 0 [.tmp 4,.tmp 5] Tryz.func199 ?_;refine Vb (X5 @Ji @Jj @ajU @p32 (X3 @ajY @Int.one_mul @Int.zero_mul)) ?_;refine aE rfl ?_;congr 3;all_goals first|rfl|(congr 2;omega)
def aj2(y:Int)(hy:0<=y/\y<=9223372036854775807):ao Tryz.prog 184 [.lit (.int .u64 1),.lit (.int .u64 y)] [] (.bJ [.lit (.int .u64 0),.lit (.int .u64 y)]) []:=by
 refine ao.aD 30 0 [.tmp 4,.tmp 5] Tryz.func184 ?_;((repeat'(first|refine Vd (X2 @Ji @Jj) (aj1 y hy) ?_|(refine Xi ?_ ?_<;>try intro ht)|exact Xx|fail)))
 exact aE rfl rfl
def m6(b:Bool):List AV:=[.lit (.bool b)]
instance:Row m6 1:=⟨λ_=>rfl,λb v hv=>by
 simp only[m6,fE]at hv;subst hv;exact .inl ⟨_,rfl,rfl⟩⟩
def aaS(xs:List Bool):rowsOf m6 xs=aX xs:=by simp[rowsOf,m6,aX]
def tg(n i:Nat)(s:Bool):List Bool:=bH i s++bH (n-i) false
def aj3{n i j:Nat}{s:Bool}(h:j<=i):(rowsOf m6 (tg n i s)).take j=rowsOf m6 (bH j s):=by
 unfold tg rowsOf;rw[<- z6,List.take_append_of_le_length aar,List.take_replicate,pC h]
def aj4{n i j:Nat}{s:Bool}(h:i+j<=n)(hj:j<=i):rowsOf m6 (bH i s)++kL j (rowsOf m6 (bH i s))++iT (i+j) (rowsOf m6 (tg n i s))=rowsOf m6 (tg n (i+j) s):=by
 unfold tg rowsOf;rw[<- z6,<- List.map_drop,<- fW,<- fW,List.take_replicate,pC hj,List.drop_append,List.drop_eq_nil_of_le GF,List.drop_replicate,dY,List.replicate_append_replicate];congr 3;simp;omega
def aj5{n i:Nat}{s:Bool}(h:i<=n):(tg n i s).length=n:=by simp[tg];omega
def aaT(s:Bool)(n:Nat)(hn:n<=1048576):ao Tryz.prog 156 [.tree 1 [m6 s],aaC (n:Nat)] [] (.ref 0 1 0 n) [.arr 1 (rowsOf m6 (bH n s))]:=by
 have hm:=aj2 n GC;refine ao.aD 48 0 [.tmp 4] Tryz.func156 ?_;((repeat'(first|refine Vc (X5 @Ji @Jj @unI @unU (X4 @ajW @ajX @Option.isSome_some.{0} @Sb)) hm ?_|(refine Xi ?_ ?_<;>try intro ht)|exact Xx|fail)))
 have e0:kL (min 1 n) [m6 s]++iT (min 1 n) (bH n [AV.lit (Value.bool false)])=rowsOf m6 (tg n (min 1 n) s):=by
  unfold tg rowsOf;rw[List.drop_replicate];rcases m9 n with h|h
  ·subst h;rfl
  ·rw[pC h,fW,List.map_replicate,List.map_replicate];rfl
 have e0':kL (min 1 n) [m6 s]++iT (min 1 n) (aX (bH n false))=rowsOf m6 (tg n (min 1 n) s):=by
  rw[<- e0];simp[aX]
 first|rw[e0]|rw[e0']
 refine aM (λi:Nat=>(⟨aw [(7,.ref 0 1 0 n),(8,aaC i)],[.arr 1 (rowsOf m6 (tg n i s))]⟩:St)) (λi=>i<=n/\(i=0->n=0)) (λi=>n-i) (min 1 n) ⟨GC,GC⟩ (Xv X0) ?_;rintro i⟨hi,hr⟩Ql an ar;by_cases hi':i<n
 ·have e1:i+min i (n-i)<=n:=GC;have hl:=aj5 (s:=s) hi;have sj:=λn s=>aj3 (n:=n) (s:=s) (aN i);((repeat'(first|refine Va (X5 @Option.map_none.{0,0} @List.drop_zero.{0} @sj @b8 (X3 @qg.{0} @Em @hl)) ?_|(refine Xi ?_ ?_<;>try intro ht)|exact Xx|fail)))
  rw[aj4 e1 (Nat.min_le_left _ _)];exact an _ (i+min i (n-i)) ⟨GC,GC⟩ GC (Xv X0)
 ·obtain rfl:i=n:=GC;((repeat'(first|refine Va X0 ?_|(refine Xi ?_ ?_<;>try intro ht)|exact Xx|fail)))
  refine ar _ _ rfl ?_;clear an ar Ql;repeat(refine Xu ?_)
  refine Vb X0 ?_;have e2:tg i i s=bH i s:=by simp[tg]
  rw[e2];exact Xw false [0] X0
def lX(m:aj):List (List Bool):=m.cls.map λl=>bH l.length true
def dH(m:aj):List (List Bool):=if df m=0 then lX m else []
def aaU(xs:List (List Bool))(b:List Bool):rowsOf aQ xs++[[AV.tree 1 (aX b)]]=rowsOf aQ (xs++[b]):=by simp[rowsOf,aQ]
def aj7(m:aj)(hm:MB m):ao Tryz.prog 102 [.agg (aq m)] [] (.tree 1 (rowsOf aQ (dH m))) []:=by
 have h1:=tV m hm;have rR:=hm.cls;generalize ak:dH m=res;unfold dH at ak;refine ao.aD 25 0 [.tmp 2] Tryz.func102 ?_;by_cases hv:df m=0;rotate_left
 ·rw[if_neg hv]at ak;rw[<- ak];generalize df m=e at *;((repeat'(first|refine Vd X0 h1 ?_|(refine Xi ?_ ?_<;>try intro ht)|exact Xx|fail)))
  exact cZ [] true Px trivial Px Px aJ.nil
 rw[if_pos hv]at ak;rw[hv]at h1;have bT:=eK.1 hv;have nu:=bT.cls;((repeat'(first|refine Vd @bne_self_eq_false.{0} h1 ?_|(refine Xi ?_ ?_<;>try intro ht)|exact Xx|fail)))
 refine aM (λz:Nat×List (List Bool)=>(⟨aw [(1,.ptr 0 0 0),(3,.ref 1 1 0 z.2.length),(10,.tree 1 (rowsOf bu m.cls)),(11,aaC m.cls.length),(12,aaC z.1)],[.var (aq m),.arr 1 (rowsOf aQ z.2)]⟩:St))
  (λz=>z.1<=m.cls.length/\z.2=(lX m).take z.1) (λz=>m.cls.length-z.1) (0,[]) ⟨aI _,rfl⟩ ?_ ?_
 ·refine aF.trans (aF.nil 3 1 (by simp only[Kc,simprocAttr]) Px) ?_;exact Xv X0
 rintro⟨i,xs⟩⟨hi,dy⟩Ql an ar;dsimp only at hi dy ⊢;have fX:(lX m).length=m.cls.length:=by simp[lX]
 by_cases hi':i<m.cls.length
 ·have rT:xs.length=i:=by rw[dy,eN];omega
  have cN:(lX m).take (i+1)=xs++[bH (m.cls.getD i default).length true]:=by
   rw[eG GC,<- dy];unfold lX;rw[iR _ _ _ hi']
  have s6:=bT.opt _ (ay (d:=default) hi');generalize aR:m.cls.getD i default=c at *;have EX:=aaT true c.length GC;repeat'(first|((fail_if_success (first|refine eT 7 ?_|refine eU 7 ?_));refine Xr (X2 @aR @bu.eq_1) ?_;intro K hK)|(refine hK _ ?_;clear hK K)|(refine Xi ?_ ?_<;>try intro ht)|refine Xy ?_|refine Xd ?_ ?_|exact Xx|fail)
  refine LR 5 Px ?_;intro K K1 hK zq;simp(disch:=omega)only[Ac,↓Pc,simprocAttr,kL];refine nM [] EX Px trivial ⟨aJ.fz (rows:=rowsOf m6 [true]) rfl rfl GF,.pure rfl,trivial⟩ rfl (by simp[xB,m6,rowsOf,flat]) ?_;simp(disch:=omega)only[Ac,↓Pc,simprocAttr];refine zq _ ⟨aw [(1,.ptr 0 0 0),(3,.ref 1 1 0 xs.length),(10,.tree 1 (rowsOf bu m.cls)),(11,aaC m.cls.length),(12,aaC i),(16,.ref 1 1 0 xs.length),(20,.tree 1 (aX (bH c.length true)))],[.var (aq m),.arr 1 (rowsOf aQ xs)]⟩ ?_ ?_
  ·rw[<- aaS];exact Xs true [0,1] X0
  clear zq K1;simp(disch:=omega)only[Ac,↓Pc,simprocAttr,iT,aaU];repeat'(first|with_reducible refine eR ?_ ?_|omega)
  refine hK _ ?_;clear hK K;repeat(refine Xu ?_)
  refine Va X0 ?_;refine an _ (i+1,xs++[bH c.length true]) ⟨PA,cN.symm⟩ PA ?_;exact Xs false [0,3] X0
 ·rw[dJ GC]at dy;((repeat'(first|refine Va X0 ?_|(refine Xi ?_ ?_<;>try intro ht)|exact Xx|fail)))
  refine ar _ _ rfl ?_;clear an ar Ql;repeat(refine Xu ?_)
  refine Vb X0 ?_;rw[dy,ak];exact Xw true [] X0
abbrev dU:=Nat×List (List Bool)×List Int
def th:List Int->AV
 |[]=>.lit (.slice none 0 0)
 |x::r=>.tree 1 (ints (x::r))
def nC(s:dU):List AV:=[aaC s.1,.tree 1 (rowsOf aQ s.2.1),th s.2.2]
def aaV(l:List Int):(∃ y,th l=AV.lit y/\y.oneCell'=true)\/∃ s r,th l=.tree s r:=by
 cases l with
 |nil=>exact .inl ⟨_,rfl,rfl⟩
 |cons x r=>exact .inr ⟨_,_,rfl⟩
def aaW(l:List Int)(x:Value):ju [th l,.lit x]=true:=by cases l<;>rfl
def aj8(l:List Int):cO (th l)=true:=by cases l<;>rfl
instance:Row nC 3:=⟨λ_=>rfl,λx v hv=>by
 simp only[nC,cB,kI,or_false]at hv;rcases hv with rfl|rfl|rfl
 ·exact .inl ⟨_,rfl,rfl⟩
 ·exact .inr ⟨_,_,rfl⟩
 ·exact aaV _⟩
def nd(P:List Nd)(i:Nat):Nd:=P.getD i default
def nD(P:List Nd)(s:dU)(o:Nat):dU:=(((nd P s.1).kids.getD o 0).toNat,bV s.2.1 (nd P s.1).cls.toNat o,s.2.2++[(nd P s.1).cls])
def jN(P:List Nd)(s:dU)(n:Nat):List dU:=(List.range n).map (nD P s)
def q7(P:List Nd)(s:dU):List dU:=jN P s (nd P s.1).kids.length
def aaX(P:List Nd)(s:dU)(n:Nat):jN P s (n+1)=jN P s n++[nD P s n]:=by unfold jN;rw[List.range_succ,fW];rfl
def mD(P:List Nd):Nat->dU->List dU
 |0,_=>[]
 |f+1,s=>s::((q7 P s).reverse.flatMap (mD P f))
def vs(P:List Nd)(s:dU):List dU:=mD P (P.length-s.1) s
def Down(P:List Nd):Prop:=∀ i,i<P.length->∀ k∈(nd P i).kids,(i:Int)<k/\k<P.length
def C3{m:aj}{P:List Nd}(h:j5 m P=true){i:Nat}(hi:i<P.length):lC m P.length i (nd P i)=true:=by
 cases hb:lC m P.length i (nd P i) with
 |true=>rfl
 |false=>rw[ZZ hi hb]at h;cases h
def vD{m:aj}{P:List Nd}(h:j5 m P=true):Down P:=λi hi k hk=>by
 have:=C3 h hi;unfold lC at this;rw[Bool.and_eq_true,fT]at this;have h2:=this.2 k hk;unfold mB at h2;exact of_decide_eq_true h2
def vF{m:aj}{P:List Nd}(h:j5 m P=true):1<=P.length/\P.length<=20000:=by
 by_cases hs:1<=P.length/\P.length<=20000
 ·exact hs
 ·rw[Z0 hs]at h;cases h
def wX{P:List Nd}{s t:dU}(h:t∈q7 P s):∃o,o<(nd P s.1).kids.length/\t=nD P s o:=by
 unfold q7 jN at h;obtain⟨o,ho,rfl⟩:=cz.1 h;exact⟨o,List.mem_range.1 ho,rfl⟩
def wY{P:List Nd}(hd:Down P){s:dU}(hs:s.1<P.length){o:Nat}(ho:o<(nd P s.1).kids.length):s.1<(nD P s o).1/\(nD P s o).1<P.length/\(((nD P s o).1:Nat):Int)=(nd P s.1).kids.getD o 0:=by
 have:=hd s.1 hs _ (ay (l:=(nd P s.1).kids) (i:=o) (d:=0) ho);unfold nD;dsimp only;omega
def aj9{P:List Nd}(hd:Down P):∀ (f:Nat) (s:dU),s.1<P.length->P.length-s.1<=f->mD P f s=mD P (P.length-s.1) s:=by
 intro f
 induction f using Nat.strongRecOn with
 |_ f ih =>
  intro s hs hf;cases f with
  |zero=>omega
  |succ f =>
   obtain⟨g,hg⟩:∃g,P.length-s.1=g+1:=⟨P.length-s.1-1,GC⟩;rw[hg,mD,mD];refine congrArg _ ?_;have key:∀ t∈(q7 P s).reverse,mD P f t=mD P g t:=λt ht=>by
    obtain⟨o,ho,rfl⟩:=wX (uE.1 ht);obtain⟨h1,h2,_⟩:=wY hd hs ho;rw[ih f GC _ h2 GC,ih g GC _ h2 GC]
   generalize (q7 P s).reverse=L at key
   induction L with
   |nil=>rfl
   |cons t L FR=>rw[sC,sC,key t GF,FR λu hu=>key u (by simp[hu])]
def C4{P:List Nd}(hd:Down P){s:dU}(hs:s.1<P.length):vs P s=s::(q7 P s).reverse.flatMap (vs P):=by
 unfold vs;obtain⟨g,hg⟩:∃g,P.length-s.1=g+1:=⟨P.length-s.1-1,GC⟩;rw[hg,mD];refine congrArg _ ?_;have key:∀ t∈(q7 P s).reverse,mD P g t=mD P (P.length-t.1) t:=λt ht=>by
  obtain⟨o,ho,rfl⟩:=wX (uE.1 ht);obtain⟨h1,h2,_⟩:=wY hd hs ho;exact aj9 hd g _ h2 GC
 generalize (q7 P s).reverse=L at key
 induction L with
 |nil=>rfl
 |cons t L FR=>rw[sC,sC,key t GF,FR λu hu=>key u (by simp[hu])]
def kF{α:Type}(P:List Nd)(step:α->dU->α×Bool):List dU->α->α×Bool
 |[],a=>(a,true)
 |s::L,a=>if s.2.2.contains (nd P s.1).cls=true then(a,false) else if(step a s).2=true then kF P step L (step a s).1 else((step a s).1,false)
def root(m:aj):dU:=(0,dH m,[])
def q8{α:Type}(m:aj)(P:List Nd)(step:α->dU->α×Bool)(a:α):α×Bool :=
 if df m=0/\j5 m P=true then kF P step (vs P (root m)) a else(a,false)
def wZ(m:aj)(P:List Nd)(s:dU):Prop:=s.1<P.length/\dD m s.2.1/\s.2.2.length<=s.1
def FT{m:aj}{x y:List (List Bool)}(h:dD m x)(he:y.map oW=x.map oW):dD m y:=by
 have hl:=congrArg oW he;rw[dX,dX]at hl;refine⟨by rw[hl];exact h.1,λi hi=>?_⟩;have h2:=congrArg (λz=>z[i]?) he;simp only[List.getElem?_map]at h2;rw[bK hi,bK GC]at h2;simp only[Option.map_some,Option.some.injEq]at h2;rw[<- h.2 i GC,aA,aA,bK hi,bK GC];exact h2
def aaY {m:aj} {P:List Nd} (hd:Down P) {s:dU} (h:wZ m P s) {o:Nat} (ho:o<(nd P s.1).kids.length):wZ m P (nD P s o) :=
  ⟨(wY hd h.1 ho).2.1,FT h.2.1 (Ik _ _ _),by
    have h1:=(wY hd h.1 ho).1
    have h2:=h.2.2
    show (s.2.2++[_]).length<=_
    rw[bQ,yF];omega⟩
def C5{m:aj}(h:VM m):dD m (dH m):=by
 unfold dH;rw[if_pos (eK.2 h)];refine⟨by simp[lX],λi hi=>?_⟩;have hi':i<m.cls.length:=by simpa [lX] using hi
 unfold lX;rw[iR _ _ _ hi',qg]
def Bn:List dU->Prop
 |[]=>True
 |t::T=>T.length<=24*t.1/\Bn T
def Bn.push{T:List dU}{i:Nat}(h:Bn T)(hT:T.length<=24*i):∀ (L:List dU),(∀ t∈L,i<t.1)->L.length<=24->Bn (L++T)
 |[],_,_=>h
 |t::L,hl,hn=>by
  have h1:=hl t GF;have h2:=Bn.push h hT L (λu hu=>hl u (by simp[hu])) (by simp at hn;omega);refine⟨?_,h2⟩;simp only[eB]at hn;show(L++T).length<=_;rw[bQ];omega
end T

