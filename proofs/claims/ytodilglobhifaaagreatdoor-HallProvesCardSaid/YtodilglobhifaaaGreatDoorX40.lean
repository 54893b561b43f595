import Derived.Test.YtodilglobhifaaaGreatDoorX39
set_option linter.all false
set_option maxHeartbeats 0
set_option maxRecDepth 20000
open List renaming append_assoc→bn,length_append→aK,cons_append→ew,nil_append→dx,set_cons_succ→w5,set_cons_zero→sC,length_cons→cf,length_nil→gX,take_zero→qT,mem_cons→cI,not_mem_nil→lf,length_map→eA,length_take→fE,map_nil→sB,foldl_nil→JI,mem_of_mem_take→qY,take_of_length_le→fD,getElem?_eq_some_iff→aN,length_set→bm,getElem?_set_ne→dz,append_nil→gI,length_singleton→nq,map_append→iJ,drop→fW,mem_append→bE
open Nat renaming zero_add→gw,zero_le→aS,le_refl→aM
open Bool renaming false_eq_true→iT
open Go Go.Am Go.Proofs
namespace T
def HY(xs:List Nm)(n:Int):rowsOf aP xs++[[AV.lit (.int .i64 n),.lit (.bool (decide (1099511627776<=n)))]]=rowsOf aP (xs++[fT n]):=by simp[rowsOf,aP,fT]
def aaz{m:ah}(hm:VM m)(os:List Ob):di Tryz.prog 87 [.agg (aB m)] os λr ob=>∃ gi ai bi D E,r=.ptr gi 0 0/\LO aP (GB m gi ai bi D E) D E (S0 m) (T0 m) ob/\cQ os ob:=by
 have tL:=hm.cls;have uW:=hm.aj;refine di.aL 94 os.length [.tmp 2] Tryz.func87 ?_;refine Vb (X3 @a8 @bn.{0} @aK.{0}) ?_;have SM:(os++[Ob.var (aB m),Ob.var (aB m++[.lit (.slice none 0 0),.lit (.slice none 0 0)])])[os.length+1]?=some (.var (aB m++[.lit (.slice none 0 0),.lit (.slice none 0 0)])):=by rw[lG];rfl
 refine cU (aC.nH (os.length+1) 4 1 SM rfl aac) ?_;simp only[bn,ew,dx,De,w5,sC,aK,cf,gX,aB,gw,Nat.reduceAdd];clear SM;refine cU (aC.nH (os.length+1) 5 1 (by rw[lG];rfl) rfl aac) ?_;simp only[bn,ew,dx,De,w5,sC,aK,cf,gX,gw,Nat.reduceAdd];have HZ:LO aP [(os.length+1,.var (gC m (os.length+2) (os.length+3) [] [])),(os.length+2,.arr 1 (rowsOf bY [])),(os.length,.var (aB m)),(os.length+3,.arr 1 (rowsOf bY []))] [] [] ((S0 m).take 0) [] (os++[.var (aB m),.var (gC m (os.length+2) (os.length+3) [] []),.arr 1 [],.arr 1 []]):=by
  refine⟨λb hb=>?_,by rw[qT];exact RI.nil,RI.nil,Jy⟩;simp only[cI,lf,or_false]at hb;rcases hb with rfl|rfl|rfl|rfl
  ·exact⟨by rw[lG];rfl,Jy⟩
  ·exact⟨by rw[lG];rfl,Jy⟩
  ·exact⟨by rw[jH],Jy⟩
  ·exact⟨by rw[lG];rfl,Jy⟩
 refine aW (λz:Nat×List Ob×Nat×List (Nat×Nat)=>(⟨ao [(1,.ptr os.length 0 0),(3,.ptr (os.length+1) 0 0),(21,.tree 1 (rowsOf bw m.cls)),(22,aam m.cls.length),(23,aam z.1)],z.2.1⟩:St))
  (λz=>z.1<=m.cls.length/\z.2.2.2.length=z.1/\LO aP [(os.length+1,.var (gC m z.2.2.1 (os.length+3) z.2.2.2 [])),(z.2.2.1,.arr 1 (rowsOf bY z.2.2.2)),(os.length,.var (aB m)),(os.length+3,.arr 1 (rowsOf bY []))] z.2.2.2 [] ((S0 m).take z.1) [] z.2.1/\cQ os z.2.1/\os.length+1<z.2.2.1/\z.2.2.1≠os.length+3)
  (λz=>m.cls.length-z.1) (0,os++[.var (aB m),.var (gC m (os.length+2) (os.length+3) [] []),.arr 1 [],.arr 1 []],os.length+2,[]) ⟨aS _,rfl,HZ,(cQ.refl os).app _,aad,aad⟩ (Xv X0) ?_
 clear HZ;rintro⟨i,ob,ai,D⟩⟨hi,hD,hL,bh,zt,H0⟩Ql an aw;dsimp only at hi hD hL bh zt H0 ⊢;by_cases hi':i<m.cls.length
 ·have lk:=aF (d:=default) hi';have Fp:=hm.opt _ lk;have lI:(S0 m).take (i+1)=(S0 m).take i++[jG (rS (m.cls.getD i default))]:=by
   rw[jb (by unfold S0;rw[eA];exact hi')];unfold S0;rw[nP _ _ _ hi']
  have nA:=λo ho=>hm.tj _ lk o ho;have aaV:=λo ho=>aaW hm lk (o:=o) ho;generalize bC:m.cls.getD i default=c at *;((repeat'(first|refine Va (X2 @bC @bw.eq_1) ?_|(refine Xi ?_ ?_<;>try intro ht)|exact Xx|fail)))
  have hvl:(jG (rS c)).length=c.length:=by unfold jG rS;simp
  refine aW (λz:Nat×List Ob×Nat×List Nm=>(⟨ao [(1,.ptr os.length 0 0),(3,.ptr (os.length+1) 0 0),(21,.tree 1 (rowsOf bw m.cls)),(22,aam m.cls.length),(23,aam i),(6,.ref z.2.2.1 2 0 z.2.2.2.length),(27,.tree 6 (rowsOf bG c)),(28,aam c.length),(29,aam z.1)],z.2.1⟩:St))
   (λz=>z.1<=c.length/\LO aP [(os.length+1,.var (gC m ai (os.length+3) D [])),(ai,.arr 1 (rowsOf bY D)),(os.length,.var (aB m)),(os.length+3,.arr 1 (rowsOf bY []))] D [] ((S0 m).take i) [] z.2.1/\cQ os z.2.1/\z.2.1[z.2.2.1]?=some (.arr 2 (rowsOf aP z.2.2.2))/\z.2.2.1 ∉ List.map (λq:Nat×Nat=>q.1) (D++[])/\os.length<=z.2.2.1/\z.2.2.2=(jG (rS c)).take z.1)
   (λz=>c.length-z.1) (0,ob++[.arr 2 []],ob.length,[]) ⟨aS _,hL.app _,bh.app _,jH _ _ _,hL.fresh (aM _),bh.len,rfl⟩ ?_ ?_
  ·refine aC.trans (aC.nil 6 2 (by simp only[Kc,simprocAttr]) aac) ?_;exact Xv X0
  clear hL bh;rintro⟨k,ok,oi,xs⟩⟨hk,hL,bh,jz,dC,rY,ef⟩dh bc bz;dsimp only at hk hL bh jz dC rY ef ⊢;by_cases aY:k<c.length
  ·have xj:=aF (l:=c) (d:=default) aY;have SN:=Rh (nA _ xj);have aeO:=aaV _ xj;have AM:(jG (rS c)).getD k default=fT (v9 (c.getD k default)):=by
    unfold jG rS;rw[List.map_map,nP _ _ _ aY];rfl
   have yj:=jb (l:=jG (rS c)) (k:=k) Bv;rw[AM,<- ef]at yj;have qG:xs.length=k:=by rw[ef,fE];omega
   generalize jP:c.getD k default=o at *;((repeat'(first|refine Va (X3 @jP @a8 @bG.eq_1) ?_|(refine Xi ?_ ?_<;>try intro ht)|exact Xx|fail)))
   refine aW (λz:Nat×List Ob=>(⟨ao [(1,.ptr os.length 0 0),(3,.ptr (os.length+1) 0 0),(21,.tree 1 (rowsOf bw m.cls)),(22,aam m.cls.length),(23,aam i),(6,.ref oi 2 0 xs.length),(27,.tree 6 (rowsOf bG c)),(28,aam c.length),(29,aam k),(9,aam (((o.ch.take z.1).map (·.2)).foldl eO 0)),(34,.tree 2 (rowsOf av o.ch)),(35,aam o.ch.length),(36,aam z.1)],z.2⟩:St))
    (λz=>z.1<=o.ch.length/\LO aP [(os.length+1,.var (gC m ai (os.length+3) D [])),(ai,.arr 1 (rowsOf bY D)),(os.length,.var (aB m)),(os.length+3,.arr 1 (rowsOf bY []))] D [] ((S0 m).take i) [] z.2/\cQ os z.2/\z.2[oi]?=some (.arr 2 (rowsOf aP xs)))
    (λz=>o.ch.length-z.1) (0,ok++[.var (bG o)]) ⟨aS _,hL.app _,bh.app _,aA jz _⟩ (Xv (X4 @qT.{0} @sB.{0,0} @JI.{0,0} @bG.eq_1)) ?_
   clear hL bh jz;rintro⟨q,oq⟩⟨hq,hL,bh,jz⟩nB g7 gz;dsimp only at hq hL bh jz ⊢;have hs:=G' ((o.ch.take q).map (·.2)) 0 (λx hx=>by
    obtain⟨c,sY,rfl⟩:=List.mem_map.1 hx;exact SN c (qY sY)) (by unfold bL;decide)
   by_cases SO:q<o.ch.length
   ·have aaY:=SN _ (aF (d:=default) SO);have c9:=Ze o.ch q SO;generalize ((o.ch.take q).map (·.2)).foldl eO 0=s at *;have uX:=V7 s (o.ch.getD q default).2 hs aaY;generalize kC:o.ch.getD q default=y at *;((repeat'(first|refine Vc (X3 @kC @a8 @av.eq_1) uX ?_|(refine Xi ?_ ?_<;>try intro ht)|exact Xx|fail)))
    refine g7 _ (q+1,oq++[.var (av y)]) ⟨aad,hL.app _,bh.app _,aA jz _⟩ aad ?_;simp only[c9];exact Xv @av.eq_1
   ·have tM:((o.ch.take q).map (·.2)).foldl eO 0=v9 o:=by rw[fD Bv];rfl
    rw[tM]at hs;rw[<- tM]at yj;generalize ((o.ch.take q).map (·.2)).foldl eO 0=s at *;have H2:=H3 s;have eoi:=aA jz;have H4:=fC jz;have pZ:=(aN.1 jz).1;((repeat'(first|refine Va X0 ?_|(refine Xi ?_ ?_<;>try intro ht)|exact Xx|fail)))
    refine gz _ _ rfl ?_;clear g7 gz nB;repeat(refine Xu ?_)
    refine Vc (X5 @jz @eoi @H4 @aP.eq_1 (X5 @fT.eq_1 @a8 @bn.{0} @aK.{0} (X2 @bm.{0} @HY))) H2 ?_;have qJ:=(hL.Dh (y:=.gone) dC jz).app [.arr 2 [aP (fT s)],.arr 2 (rowsOf aP (xs++[fT s]))];refine bc _ (k+1,oq.set oi .gone++[.arr 2 [aP (fT s)],.arr 2 (rowsOf aP (xs++[fT s]))],oq.length+1,xs++[fT s]) ⟨aad,qJ,(bh.set rY).app _,jJ _ _ _ _ _,(hL.Dh (y:=.gone) dC jz).fresh (by dsimp only;rw[bm];omega),by dsimp only;have:=bh.len;omega,yj.symm⟩ aad ?_;exact Xv (X2 @aP.eq_1 @fT.eq_1)
  ·rw[fD Bv]at ef;have qz:=(hL.base (os.length+1,.var (gC m ai (os.length+3) D [])) Jy).1;have qK:=(hL.base (ai,.arr 1 (rowsOf bY D)) Jy).1;dsimp only at qz qK;have H5:=aA qz;have H6:=aA qK;have H7:=fC qK;have dg:(ok.set ai .gone)[os.length+1]?=some (.var (gC m ai (os.length+3) D [])):=by rw[dz Bv];exact qz
   have pM:=aA dg;have H8:=fC dg;have c9:=hL.step jz dC (by simp only[cI,lf,or_false,forall_eq_or_imp,forall_eq];omega) [.tree 1 (rowsOf bw m.cls),.tree 4 (rowsOf aO m.aj),.tree 4 (rowsOf cN m.aI),aam m.rules,.ref (ok.length+1) 1 0 (D.length+1),.ref (os.length+3) 1 0 0] (rowsOf bY (D++[(oi,xs.length)])) (.arr 1 [[.ref oi 2 0 xs.length]]);have H9:gC m (ok.length+1) (os.length+3) (D++[(oi,xs.length)]) []=[.tree 1 (rowsOf bw m.cls),.tree 4 (rowsOf aO m.aj),.tree 4 (rowsOf cN m.aI),aam m.rules,.ref (ok.length+1) 1 0 (D.length+1),.ref (os.length+3) 1 0 0]:=by simp[gC]
   have SP:=(aN.1 (hL.base (os.length+3,.arr 1 (rowsOf bY [])) Jy).1).1;have fS:=(aN.1 qK).1;dsimp only at SP;((repeat'(first|refine Va X0 ?_|(refine Xi ?_ ?_<;>try intro ht)|exact Xx|fail)))
   refine bz _ _ rfl ?_;clear bc bz dh;repeat(refine Xu ?_)
   refine Va (X5 @qz @qK @H5 @H6 (X5 @H7 @pM @H8 @gC.eq_1 (X5 @Af @a8 @bn.{0} @aK.{0} @bm.{0}))) ?_;refine an _ (i+1,_,ok.length+1,D++[(oi,xs.length)]) ⟨aad,aak,by dsimp only;rw[lI,<- ef,H9];exact c9,((bh.set Bv).set Bv).app _,aad,aad⟩ aad ?_;exact Xv X0
 rw[fD (by unfold S0;rw[eA];omega)]at hL;have yk:=(hL.base (os.length,.var (aB m)) Jy).1;dsimp only at yk;((repeat'(first|refine Va @yk ?_|(refine Xi ?_ ?_<;>try intro ht)|exact Xx|fail)))
 refine aw _ _ rfl ?_;clear an aw Ql;repeat(refine Xu ?_)
 refine Va @yk ?_;have SQ:LO aP [(os.length+1,.var (gC m ai (os.length+3) D [])),(os.length+3,.arr 1 (rowsOf bY [])),(os.length,.var (aB m)),(ai,.arr 1 (rowsOf bY D))] [] D ((T0 m).take 0) (S0 m) ob:=hL.swap.sub (by simp only[cI,lf,or_false];intro b hb;rcases hb with rfl|rfl|rfl|rfl<;>simp);refine aW (λz:Nat×List Ob×Nat×List (Nat×Nat)=>(⟨ao [(1,.ptr os.length 0 0),(3,.ptr (os.length+1) 0 0),(63,.tree 4 (rowsOf aO m.aj)),(64,aam m.aj.length),(65,aam z.1)],z.2.1⟩:St))
  (λz=>z.1<=m.aj.length/\z.2.2.2.length=z.1/\LO aP [(os.length+1,.var (gC m ai z.2.2.1 D z.2.2.2)),(z.2.2.1,.arr 1 (rowsOf bY z.2.2.2)),(os.length,.var (aB m)),(ai,.arr 1 (rowsOf bY D))] z.2.2.2 D ((T0 m).take z.1) (S0 m) z.2.1/\cQ os z.2.1/\os.length+1<z.2.2.1/\ai≠z.2.2.1)
  (λz=>m.aj.length-z.1) (0,ob,os.length+3,[]) ⟨aS _,rfl,SQ,bh,aad,H0⟩ (Xv X0) ?_
 clear hL SQ bh yk hi hi' H0 ob;rintro⟨i,ob,bi,E⟩⟨hi,hE,hL,bh,eW,wB⟩Ql an aw;dsimp only at hi hE hL bh eW wB ⊢;by_cases hi':i<m.aj.length
 ·have jl:=lE hm.pr _ (aF (d:=default) hi');have mz:=DM jl hm;have jL:=Rp jl;have lI:(T0 m).take (i+1)=(T0 m).take i++[jG (m.aj.getD i default).bj]:=by
   rw[jb (by unfold T0;rw[eA];exact hi')];unfold T0;rw[nP _ _ _ hi']
  generalize cy:m.aj.getD i default=p at *;((repeat'(first|refine Va (X3 @cy @a8 @aO.eq_1) ?_|(refine Xi ?_ ?_<;>try intro ht)|exact Xx|fail)))
  have hvl:(jG p.bj).length=p.bj.length:=by unfold jG;simp
  refine aW (λz:Nat×List Ob×Nat×List Nm=>(⟨ao [(1,.ptr os.length 0 0),(3,.ptr (os.length+1) 0 0),(63,.tree 4 (rowsOf aO m.aj)),(64,aam m.aj.length),(65,aam i),(14,.ref z.2.2.1 2 0 z.2.2.2.length),(70,.tree 1 (ints p.bj)),(71,aam p.bj.length),(72,aam z.1)],z.2.1⟩:St))
   (λz=>z.1<=p.bj.length/\LO aP [(os.length+1,.var (gC m ai bi D E)),(bi,.arr 1 (rowsOf bY E)),(os.length,.var (aB m)),(ai,.arr 1 (rowsOf bY D))] E D ((T0 m).take i) (S0 m) z.2.1/\cQ os z.2.1/\z.2.1[z.2.2.1]?=some (.arr 2 (rowsOf aP z.2.2.2))/\z.2.2.1 ∉ List.map (λq:Nat×Nat=>q.1) (E++D)/\os.length<=z.2.2.1/\z.2.2.2=(jG p.bj).take z.1)
   (λz=>p.bj.length-z.1) (0,(ob++[.var (aO p)])++[.arr 2 []],(ob++[Ob.var (aO p)]).length,[]) ⟨aS _,(hL.app _).app _,(bh.app _).app _,jH _ _ _,(hL.app [.var (aO p)]).fresh (aM _),by simp;have:=bh.len;omega,rfl⟩ ?_ ?_
  ·refine aC.trans (aC.nil 14 2 (by simp only[Kc,simprocAttr]) aac) ?_;exact Xv X0
  clear hL bh;rintro⟨k,ok,oi,xs⟩⟨hk,hL,bh,jz,dC,rY,ef⟩dh bc bz;dsimp only at hk hL bh jz dC rY ef ⊢;by_cases aY:k<p.bj.length
  ·have AM:(jG p.bj).getD k default=fT (p.bj.getD k 0):=by
    unfold jG;rw[nP _ _ _ aY];rfl
   have yj:=jb (l:=jG p.bj) (k:=k) Bv;rw[AM,<- ef]at yj;have qG:xs.length=k:=by rw[ef,fE];omega
   have hs:=jL _ (aF (d:=0) aY);unfold bL at hs;generalize kC:p.bj.getD k 0=s at *;have H2:=H3 s;have eoi:=aA jz;have H4:=fC jz;have pZ:=(aN.1 jz).1;((repeat'(first|refine Vc (X5 @kC @jz @eoi @H4 (X5 @aP.eq_1 @fT.eq_1 @a8 @bn.{0} (X3 @aK.{0} @bm.{0} @HY))) H2 ?_|(refine Xi ?_ ?_<;>try intro ht)|exact Xx|fail)))
   have qJ:=(hL.Dh (y:=.gone) dC jz).app [.arr 2 [aP (fT s)],.arr 2 (rowsOf aP (xs++[fT s]))];refine bc _ (k+1,ok.set oi .gone++[.arr 2 [aP (fT s)],.arr 2 (rowsOf aP (xs++[fT s]))],ok.length+1,xs++[fT s]) ⟨aad,qJ,(bh.set rY).app _,jJ _ _ _ _ _,(hL.Dh (y:=.gone) dC jz).fresh (by dsimp only;rw[bm];omega),by dsimp only;have:=bh.len;omega,yj.symm⟩ aad ?_;exact Xv (X2 @aP.eq_1 @fT.eq_1)
  ·rw[fD Bv]at ef;have qz:=(hL.base (os.length+1,.var (gC m ai bi D E)) Jy).1;have qK:=(hL.base (bi,.arr 1 (rowsOf bY E)) Jy).1;have ha3:=(aN.1 (hL.base (ai,.arr 1 (rowsOf bY D)) Jy).1).1;dsimp only at qz qK ha3;have H5:=aA qz;have H6:=aA qK;have H7:=fC qK;have dg:(ok.set bi .gone)[os.length+1]?=some (.var (gC m ai bi D E)):=by rw[dz Bv];exact qz
   have pM:=aA dg;have H8:=fC dg;have c9:=hL.step jz dC (by simp only[cI,lf,or_false,forall_eq_or_imp,forall_eq];omega) [.tree 1 (rowsOf bw m.cls),.tree 4 (rowsOf aO m.aj),.tree 4 (rowsOf cN m.aI),aam m.rules,.ref ai 1 0 D.length,.ref (ok.length+1) 1 0 (E.length+1)] (rowsOf bY (E++[(oi,xs.length)])) (.arr 1 [[.ref oi 2 0 xs.length]]);have H9:gC m ai (ok.length+1) D (E++[(oi,xs.length)])=[.tree 1 (rowsOf bw m.cls),.tree 4 (rowsOf aO m.aj),.tree 4 (rowsOf cN m.aI),aam m.rules,.ref ai 1 0 D.length,.ref (ok.length+1) 1 0 (E.length+1)]:=by simp[gC]
   have fS:=(aN.1 qK).1;((repeat'(first|refine Va X0 ?_|(refine Xi ?_ ?_<;>try intro ht)|exact Xx|fail)))
   refine bz _ _ rfl ?_;clear bc bz dh;repeat(refine Xu ?_)
   refine Va (X5 @qz @qK @H5 @H6 (X5 @H7 @pM @H8 @gC.eq_1 (X5 @Af @a8 @bn.{0} @aK.{0} @bm.{0}))) ?_;refine an _ (i+1,_,ok.length+1,E++[(oi,xs.length)]) ⟨aad,aak,by dsimp only;rw[lI,<- ef,H9];exact c9,((bh.set Bv).set Bv).app _,aad,aad⟩ aad ?_;exact Xv X0
 rw[fD (by unfold T0;rw[eA];omega)]at hL;((repeat'(first|refine Va X0 ?_|(refine Xi ?_ ?_<;>try intro ht)|exact Xx|fail)))
 refine aw _ _ rfl ?_;clear an aw Ql;repeat(refine Xu ?_)
 refine Vb X0 ?_;unfold jm;simp only[fc,eM];simp(disch:=omega)only[Ac,↓Pc,simprocAttr];refine⟨.ptr (os.length+1) 0 0,ob,⟨os.length+1,ai,bi,D,E,rfl,hL.swap.sub ?_,bh⟩,dt rfl bh.len rfl⟩;simp only[cI,lf,or_false];intro b hb;rcases hb with rfl|rfl|rfl<;>simp
def aa0{m:ah}(hm:VM m){gi ai bi:Nat}{D E:List (Nat×Nat)}{S T:List (List Nm)}{os:List Ob}(h:LO aP (GB m gi ai bi D E) D E S T os){B:Int}(hg:LG m B (S,T)){left:List (List Bool)}(hf:iP m left)(c:Nat)(hc:c<m.cls.length):
  di Tryz.prog 128 [.ptr gi 0 0,aam c,.tree 1 (rowsOf bl left)] os λr ob=>cQ os ob/\∃ id,r=.ref id 2 0 (iq (S.getD c default) (left.getD c default)).length/\ob[id]?=some (.arr 2 (rowsOf aP (iq (S.getD c default) (left.getD c default)))):=by
 obtain⟨fg,fa,fb⟩:=wa h;have hD:=h.rD.len;have lB:S.length=m.cls.length:=hg.s;have tL:=hm.cls;have eX:=hf.1;obtain⟨si,H'⟩:=h.rD.row c Bv;have DN:(S.getD c default).length=(m.cls.getD c default).length:=hg.sl c hc;have cJ:=hf.2 c Bv;have SR:=hm.opt _ (aF (l:=m.cls) (i:=c) (d:=default) hc);generalize bf:S.getD c default=row at *;generalize eK:left.getD c default=lc at *;refine di.aL 36 os.length [.tmp 6] Tryz.func128 ?_;refine Vb (X5 @fg @fa @gC.eq_1 @si @bY.eq_1) ?_;have yl:(D.getD c default).2=row.length:=H'.symm;refine aW (λz:Nat×List Ob×Nat×List Nm=>(⟨ao [(1,aam c),(2,.tree 1 (rowsOf bl left)),(7,.ref z.2.2.1 2 0 z.2.2.2.length),(16,.ref (D.getD c default).1 2 0 row.length),(17,aam row.length),(18,aam z.1)],z.2.1⟩:St))
  (λz=>z.1<=row.length/\cQ os z.2.1/\z.2.1[z.2.2.1]?=some (.arr 2 (rowsOf aP z.2.2.2))/\os.length<=z.2.2.1/\z.2.2.2=iq (row.take z.1) (lc.take z.1)/\z.2.2.2.length<=z.1)
  (λz=>row.length-z.1) (0,os++[.arr 2 []],os.length,[]) ⟨aS _,(cQ.refl os).app _,jH _ _ _,aM _,rfl,aM _⟩ ?_ ?_
 ·refine aC.trans (aC.nil 7 2 (by simp only[Kc,simprocAttr]) aac) ?_;exact Xv @yl
 rintro⟨i,ob,ti,xs⟩⟨hi,bh,eh,jL,ef,qG⟩Ql an aw;dsimp only at hi bh eh jL ef qG ⊢;have r1:=bh _ _ si;have DO:=aA r1;have qL:=aA eh;have AN:=fC eh;have mz:=(aN.1 eh).1;by_cases hi':i<row.length
 ·have h1:=jb hi';have h2:=jb (l:=lc) (k:=i) Bv;have h3:=Ha (row.getD i default) (lc.getD i default) (row.take i) (lc.take i) (by rw[fE,fE];omega);rw[<- h1,<- h2,<- ef]at h3;have rM:lc.getD i default=lc.getD i false:=rfl;rw[rM]at h3;generalize cy:row.getD i default=p at *;generalize nU:lc.getD i false=is at *;cases is
  ·simp only[iT,if_false,gI]at h3;((repeat'(first|refine Va (X5 @r1 @DO @aP.eq_1 @cy (X4 @eK @nU @bl.eq_1 @a8)) ?_|(refine Xi ?_ ?_<;>try intro ht)|exact Xx|fail)))
   refine an _ (i+1,ob++[.var (aP p)],ti,xs) ⟨aad,bh.app _,qL _,jL,h3.symm,aad⟩ aad ?_;exact Xv X0
  ·simp only[if_true]at h3;have Ia:rowsOf aP xs++[[AV.lit (.int .i64 p.1),.lit (.bool p.2)]]=rowsOf aP (xs++[p]):=by simp[rowsOf,aP]
   ((repeat'(first|refine Va (X5 @r1 @DO @eh @qL (X5 @AN @aP.eq_1 @cy @eK (X5 @nU @bl.eq_1 @Ia @a8 (X3 @bn.{0} @aK.{0} @bm.{0})))) ?_|(refine Xi ?_ ?_<;>try intro ht)|exact Xx|fail)))
   refine an _ (i+1,ob.set ti .gone++[.var (aP p),.arr 2 [aP p],.arr 2 (rowsOf aP (xs++[p]))],ob.length+2,xs++[p]) ⟨aad,(bh.set jL).app _,jJ _ _ _ _ _,by dsimp only;have:=bh.len;omega,h3.symm,aak⟩ aad ?_;exact Xv @aP.eq_1
 ·rw[fD Bv,fD Bv]at ef;((repeat'(first|refine Va X0 ?_|(refine Xi ?_ ?_<;>try intro ht)|exact Xx|fail)))
  refine aw _ _ rfl ?_;clear an aw Ql;repeat(refine Xu ?_)
  refine Vb X0 ?_;unfold jm;simp only[fc,eM];simp(disch:=omega)only[Ac,↓Pc,simprocAttr];rw[<- ef];exact⟨_,_,⟨bh,ti,rfl,eh⟩,dt rfl bh.len rfl⟩
def aa1 {m:ah} (hm:VM m) {gi ai bi:Nat} {D E:List (Nat×Nat)} {S T:List (List Nm)} {os:List Ob} (h:LO aP (GB m gi ai bi D E) D E S T os) {B:Int} (hg:LG m B (S,T)) {left:List (List Bool)} (hf:iP m left) (c:Nat) (hc:c<m.aj.length) :
    di Tryz.prog 129 [.ptr gi 0 0,aam c,.tree 1 (rowsOf bl left)] os λr ob=>cQ os ob/\∃ id,r=.ref id 2 0 (iq (T.getD c default) (rT m left c)).length/\ob[id]?=some (.arr 2 (rowsOf aP (iq (T.getD c default) (rT m left c)))):=by
  obtain ⟨fg,fa,fb⟩:=wa h
  have eg:=aA fg
  have ea:=aA fa
  have eb:=aA fb
  have hD:=h.rD.len
  have hE:=h.rE.len
  have lB:S.length=m.cls.length:=hg.s
  have AO:T.length=m.aj.length:=hg.t
  have tL:=hm.cls
  have uW:=hm.aj
  have eX:=hf.1
  obtain ⟨ym,SS⟩:=h.rE.row c Bv
  have AP:(T.getD c default).length=(m.aj.getD c default).bj.length:=hg.tl c hc
  have jl:=lE hm.pr _ (aF (d:=default) hc)
  obtain ⟨pb1,pb2,pb3,SU⟩:=Ib jl
  have mz:=DM jl hm
  have wC:=hf.2 (m.aj.getD c default).fst.toNat Bv
  have uk:=hf.2 (m.aj.getD c default).snd.toNat Bv
  have AQ:=hm.opt _ (aF (l:=m.cls) (i:=(m.aj.getD c default).fst.toNat) (d:=default) Bv)
  have a9:=hm.opt _ (aF (l:=m.cls) (i:=(m.aj.getD c default).snd.toNat) (d:=default) Bv)
  obtain ⟨DP,Ic⟩:=h.rD.row (m.aj.getD c default).snd.toNat Bv
  have tF:(S.getD (m.aj.getD c default).snd.toNat default).length=(m.cls.getD (m.aj.getD c default).snd.toNat default).length:=hg.sl _ Bv
  have aa5:rT m left c=wc (left.getD (m.aj.getD c default).fst.toNat default) (left.getD (m.aj.getD c default).snd.toNat default):=rfl
  have DQ:=Ru (left.getD (m.aj.getD c default).snd.toNat default) (left.getD (m.aj.getD c default).fst.toNat default)
  have SV:=SW (left.getD (m.aj.getD c default).snd.toNat default) (left.getD (m.aj.getD c default).fst.toNat default)
  rw[<- aa5] at DQ SV
  generalize bf:T.getD c default=row at *
  generalize cy:m.aj.getD c default=p at *
  generalize hLA:left.getD p.fst.toNat default=la at *
  generalize DR:left.getD p.snd.toNat default=lb at *
  generalize rT m left c=pb at *
  have AR:(D.getD p.snd.toNat default).2=lb.length:=by rw[<- Ic,tF,uk]
  have bz:row.length=pb.length:=by
    rw[DQ,wC,uk,AP]
    have:=SU
    rw[<- Int.natCast_mul] at this
    exact Int.ofNat_inj.1 this
  have yl:(E.getD c default).2=row.length:=SS.symm
  have qp:=aA DP
  have qe:=aA ym
  refine di.aL 70 os.length [.tmp 6] Tryz.func129 ?_
  (((refine Vb (X5 @fg @fa @fb @eg (X5 @ea @eb @gC.eq_1 @DP (X5 @qp @ym @qe @bY.eq_1 (X5 @cy @aO.eq_1 @a8 @AR @yl)))) ?_)))
  refine aW (λz:Nat×List Ob×Nat×List Nm=>(⟨ao [(2,.tree 1 (rowsOf bl left)),(7,.ptr os.length 0 0),(8,aam lb.length),(9,.ref z.2.2.1 2 0 z.2.2.2.length),(35,.ref (E.getD c default).1 2 0 row.length),(36,aam row.length),(37,aam z.1)],z.2.1⟩:St))
    (λz=>z.1<=row.length/\cQ (os++[.var (aO p)]) z.2.1/\z.2.1[z.2.2.1]?=some (.arr 2 (rowsOf aP z.2.2.2))/\os.length<z.2.2.1/\z.2.2.2=iq (row.take z.1) (pb.take z.1)/\z.2.2.2.length<=z.1)
    (λz=>row.length - z.1) (0,(os++[.var (aO p)])++[.arr 2 []],(os++[Ob.var (aO p)]).length,[]) ⟨aS _,(cQ.refl _).app _,jH _ _ _,Jy,rfl,aM _⟩ ?_ ?_
  · refine aC.trans (aC.nil 9 2 (by simp only[Kc,simprocAttr]) aac) ?_
    exact Xv (X2 @yl @AR)
  rintro ⟨i,ob,ti,xs⟩ ⟨hi,bh,eh,jL,ef,qG⟩ Ql an aw
  dsimp only at hi bh eh jL ef qG ⊢
  have r1:=bh _ _ (qe [.var (aO p)])
  have rv:ob[os.length]?=some (.var (aO p)):=bh _ _ (jH _ _ _)
  have DO:=aA r1
  have erv:=aA rv
  have qL:=aA eh
  have AN:=fC eh
  have aeP:=(aN.1 eh).1
  have dS:=bh.len
  rw[aK,nq] at dS
  by_cases hi':i<row.length
  · have h1:=jb hi'
    have h2:=jb (l:=pb) (k:=i) Bv
    have h3:=Ha (row.getD i default) (pb.getD i default) (row.take i) (pb.take i) (by rw[fE,fE];omega)
    rw[<- h1,<- h2,<- ef] at h3
    have rM:pb.getD i default=(la.getD (i / lb.length) false && lb.getD (i % lb.length) false):=SV i Bv
    rw[rM] at h3
    have SX:0<lb.length:=by
      rcases Nat.eq_zero_or_pos lb.length with h0 | h0
      · rw[h0,Nat.mul_zero] at DQ;omega
      · exact h0
    have hdiv:i / lb.length<la.length:=by rw[Nat.div_lt_iff_lt_mul SX];omega
    have tc:=Nat.mod_lt i SX
    have hq:((i:Int).tdiv lb.length)=((i / lb.length:Nat):Int):=by rw[Int.tdiv_eq_ediv_of_nonneg Bv];simp
    have hr:((i:Int).tmod lb.length)=((i % lb.length:Nat):Int):=by rw[Int.tmod_eq_emod_of_nonneg Bv];simp
    have tN:((i:Int) / (lb.length:Int))=((i / lb.length:Nat):Int):=Jy
    have gZ:((i:Int) % (lb.length:Int))=((i % lb.length:Nat):Int):=Jy
    generalize hdd:i / lb.length=dd at *
    generalize vu:i % lb.length=mm at *
    generalize hpq:row.getD i default=q at *
    generalize vI:la.getD dd false=ia at *
    generalize GA:lb.getD mm false=ib at *
    have Ia:rowsOf aP xs++[[AV.lit (.int .i64 q.1),.lit (.bool q.2)]]=rowsOf aP (xs++[q]):=by simp[rowsOf,aP]
    cases ia<;>cases ib
    all_goals
      simp only[Bool.false_and,Bool.true_and,iT,if_false,if_true,gI] at h3
      ((repeat' (first|refine Va (X5 @r1 @DO @rv @erv (X5 @eh @qL @AN @aP.eq_1 (X5 @aO.eq_1 @hpq @hLA @DR (X5 @hq @hr @tN @gZ (X5 @vI @GA @bl.eq_1 @Ia (X5 @a8 @Int.toNat_natCast @bn.{0} @aK.{0} @bm.{0})))))) ?_|(refine Xi ?_ ?_<;>try intro ht)|exact Xx|fail)))
    all_goals first
      | (refine an _ (i+1,ob++[.var (aP q)],ti,xs) ⟨aad,bh.app _,qL _,jL,h3.symm,aad⟩ aad ?_
         exact Xv @aP.eq_1;done)
      | (refine an _ (i+1,ob.set ti .gone++[.var (aP q),.arr 2 [aP q],.arr 2 (rowsOf aP (xs++[q]))],ob.length+2,xs++[q]) ⟨aad,(bh.set (by rw[aK,nq];omega)).app _,jJ _ _ _ _ _,aad,h3.symm,aak⟩ aad ?_
         exact Xv @aP.eq_1;done)
  · rw[fD Bv,fD Bv] at ef
    ((repeat' (first|refine Va X0 ?_|(refine Xi ?_ ?_<;>try intro ht)|exact Xx|fail)))
    refine aw _ _ rfl ?_;clear an aw Ql
    repeat (refine Xu ?_)
    refine Vb X0 ?_
    unfold jm
    simp only[fc,eM]
    simp (disch:=omega) only[Ac,↓Pc,simprocAttr]
    rw[<- ef]
    refine⟨_,ob,⟨λk o hk=>bh k o (aA hk _),ti,rfl,eh⟩,dt rfl Bv rfl⟩
def SY(xs:List Nm)(q:Nm):rowsOf aP xs++[[AV.lit (.int .i64 q.1),.lit (.bool q.2)]]=rowsOf aP (xs++[q]):=by simp[rowsOf,aP]
def aaE{m:ah}(hm:VM m){gi ai bi:Nat}{D E:List (Nat×Nat)}{S T:List (List Nm)}{os:List Ob}(h:LO aP (GB m gi ai bi D E) D E S T os)(hg:LG m uN (S,T)){left:List (List Bool)}(hf:iP m left):
  di Tryz.prog 90 [.ptr gi 0 0,.tree 1 (rowsOf bl left)] os λr ob=>r=aam (Di m left (S,T))/\os.length<=ob.length:=by
 obtain⟨fg,fa,fb⟩:=wa h;have eg:=aA fg;have ea:=aA fa;have eb:=aA fb;have hD:=h.rD.len;have hE:=h.rE.len;have lB:S.length=m.cls.length:=hg.s;have AO:T.length=m.aj.length:=hg.t;have tL:=hm.cls;have uW:=hm.aj;have Ie:=hm.aI;have eX:=hf.1;rw[aa9];refine di.aL 80 os.length [.tmp 4] Tryz.func90 ?_;refine Vb (X3 @fg @fa @gC.eq_1) ?_;have uY:D.length=m.cls.length:=Bv;refine aW (λz:Nat×List Ob×Nat×List Nm=>(⟨ao [(0,.ptr gi 0 0),(1,.tree 1 (rowsOf bl left)),(5,.ref z.2.2.1 2 0 z.2.2.2.length),(17,aam m.cls.length),(18,aam z.1)],z.2.1⟩:St))
  (λz=>z.1<=m.cls.length/\cQ os z.2.1/\z.2.1[z.2.2.1]?=some (.arr 2 (rowsOf aP z.2.2.2))/\os.length<=z.2.2.1/\z.2.2.2=(PC left S z.1).map sj)
  (λz=>m.cls.length-z.1) (0,os++[.arr 2 []],os.length,[]) ⟨aS _,(cQ.refl _).app _,jH _ _ _,aM _,rfl⟩ ?_ ?_
 ·refine aC.trans (aC.nil 5 2 (by simp only[Kc,simprocAttr]) aac) ?_;exact Xv @uY
 rintro⟨i,ob,ti,ps⟩⟨hi,bh,eh,jL,gT⟩Ql an aw;dsimp only at hi bh eh jL gT ⊢;have eL:ps.length=i:=by rw[gT,eA,Dj]
 by_cases hi':i<m.cls.length
 ·have lY:=aa0 hm (h.cW bh) hg hf i hi';have c9:(PC left S (i+1)).map sj=ps++[pE (iq (S.getD i default) (left.getD i default))]:=by
   rw[show PC left S (i+1)=PC left S i++[nO (S.getD i default) (left.getD i default) (0,false)] from Hc _ i,iJ,<- gT,SZ];rfl
  have Ig:=S1 (iq (S.getD i default) (left.getD i default)) (by have:=Ih (S.getD i default) (left.getD i default);have:=hg.sl i hi';have:=hm.opt _ (aF (d:=default) hi');dsimp only at *;omega);generalize iq (S.getD i default) (left.getD i default)=Ii at *;generalize pE Ii=q at *;repeat'(first|((fail_if_success (first|refine gx 5 ?_|refine gy 5 ?_));refine Xr X0 ?_;intro K hK)|(refine hK _ ?_;clear hK K)|(refine Xi ?_ ?_<;>try intro ht)|refine Xy ?_|exact Xx|fail)
  refine pe 4 aac _ rfl ?_;intro K hK;simp(disch:=omega)only[Ac,↓Pc,simprocAttr,List.take,fW];refine⟨rfl,(show jS Tryz.prog 128 [.ptr gi 0 0,aam i,.tree 1 (rowsOf bl left)] (some 25) _ _ from ?_)⟩;refine rL lY ?_;rintro r tI⟨bd,id,rfl,cO⟩;refine⟨bd.len,?_⟩;have wD:=bd _ _ eh;have Ij:=aA wD;have Ik:=fC wD;have dS:=(bh.trans bd).len;simp(disch:=omega)only[Ac,↓Pc,simprocAttr,fW];refine sP [] Ig Jy trivial ⟨bt.fz cO (by rw[cK]) Jy,trivial⟩ rfl Jy ?_;simp(disch:=omega)only[Ac,↓Pc,simprocAttr,wD,Ij,Ik,aP,SY,a8,bn,aK,bm];repeat'(first|with_reducible refine And.intro ?_ ?_|omega)
  refine hK _ ?_;clear hK K;repeat(refine Xu ?_)
  refine Va X0 ?_;refine an _ (i+1,tI.set ti .gone++[.arr 2 [aP q],.arr 2 (rowsOf aP (ps++[q]))],tI.length+1,ps++[q]) ⟨aad,((bh.trans bd).set jL).app _,jJ _ _ _ _ _,aad,c9.symm⟩ aad ?_;exact Xv @aP.eq_1
 have S3:i=m.cls.length:=Bv;rw[S3]at gT;have kg:=bh _ _ fg;have kb:=bh _ _ fb;have aa':E.length=m.aj.length:=Bv;((repeat'(first|refine Va X0 ?_|(refine Xi ?_ ?_<;>try intro ht)|exact Xx|fail)))
 refine aw _ _ rfl ?_;clear an aw Ql;repeat(refine Xu ?_)
 refine Va (X3 @kg @kb @gC.eq_1) ?_;refine aW (λz:Nat×List Ob×Nat×List Nm=>(⟨ao [(0,.ptr gi 0 0),(1,.tree 1 (rowsOf bl left)),(5,.ref z.2.2.1 2 0 z.2.2.2.length),(34,aam m.aj.length),(35,aam z.1)],z.2.1⟩:St))
  (λz=>z.1<=m.aj.length/\cQ os z.2.1/\z.2.1[z.2.2.1]?=some (.arr 2 (rowsOf aP z.2.2.2))/\os.length<=z.2.2.1/\z.2.2.2=(PC left S m.cls.length++PP m left T z.1).map sj)
  (λz=>m.aj.length-z.1) (0,ob,ti,ps) ⟨aS _,bh,eh,jL,by rw[gT];simp[PP]⟩ (Xv @aa') ?_
 clear bh eh jL gT eL S3 kg kb hi hi' ti ps;rintro⟨i,ob,ti,ps⟩⟨hi,bh,eh,jL,gT⟩Ql an aw;dsimp only at hi bh eh jL gT ⊢;have eL:ps.length=m.cls.length+i:=by rw[gT,eA,aK,Dj,He]
 by_cases hi':i<m.aj.length
 ·have lY:=aa1 hm (h.cW bh) hg hf i hi';have c9:(PC left S m.cls.length++PP m left T (i+1)).map sj=ps++[pE (iq (T.getD i default) (rT m left i))]:=by
   rw[show PP m left T (i+1)=PP m left T i++[nO (T.getD i default) (rT m left i) (0,false)] from Hc _ i,<- bn,iJ,<- gT,SZ];rfl
  have Ig:=S1 (iq (T.getD i default) (rT m left i)) (by have:=Ih (T.getD i default) (rT m left i);have:=hg.tl i hi';have:=DM (lE hm.pr _ (aF (d:=default) hi')) hm;dsimp only at *;omega);generalize iq (T.getD i default) (rT m left i)=Ii at *;generalize pE Ii=q at *;repeat'(first|((fail_if_success (first|refine gx 10 ?_|refine gy 10 ?_));refine Xr X0 ?_;intro K hK)|(refine hK _ ?_;clear hK K)|(refine Xi ?_ ?_<;>try intro ht)|refine Xy ?_|exact Xx|fail)
  refine pe 4 aac _ rfl ?_;intro K hK;simp(disch:=omega)only[Ac,↓Pc,simprocAttr,List.take,fW];refine⟨rfl,(show jS Tryz.prog 129 [.ptr gi 0 0,aam i,.tree 1 (rowsOf bl left)] (some 42) _ _ from ?_)⟩;refine rL lY ?_;rintro r tI⟨bd,id,rfl,cO⟩;refine⟨bd.len,?_⟩;have wD:=bd _ _ eh;have Ij:=aA wD;have Ik:=fC wD;have dS:=(bh.trans bd).len;simp(disch:=omega)only[Ac,↓Pc,simprocAttr,fW];refine sP [] Ig Jy trivial ⟨bt.fz cO (by rw[cK]) Jy,trivial⟩ rfl Jy ?_;simp(disch:=omega)only[Ac,↓Pc,simprocAttr,wD,Ij,Ik,aP,SY,a8,bn,aK,bm];repeat'(first|with_reducible refine And.intro ?_ ?_|omega)
  refine hK _ ?_;clear hK K;repeat(refine Xu ?_)
  refine Va X0 ?_;refine an _ (i+1,tI.set ti .gone++[.arr 2 [aP q],.arr 2 (rowsOf aP (ps++[q]))],tI.length+1,ps++[q]) ⟨aad,((bh.trans bd).set jL).app _,jJ _ _ _ _ _,aad,c9.symm⟩ aad ?_;exact Xv @aP.eq_1
 have S5:i=m.aj.length:=Bv;rw[S5]at gT;have kg:=bh _ _ fg;((repeat'(first|refine Va X0 ?_|(refine Xi ?_ ?_<;>try intro ht)|exact Xx|fail)))
 refine aw _ _ rfl ?_;clear an aw Ql;repeat(refine Xu ?_)
 refine Va (X2 @kg @gC.eq_1) ?_;refine aW (λz:Nat×List Ob×Nat×List Nm=>(⟨ao [(1,.tree 1 (rowsOf bl left)),(5,.ref z.2.2.1 2 0 z.2.2.2.length),(51,.tree 4 (rowsOf cN m.aI)),(52,aam m.aI.length),(53,aam z.1)],z.2.1⟩:St))
  (λz=>z.1<=m.aI.length/\cQ os z.2.1/\z.2.1[z.2.2.1]?=some (.arr 2 (rowsOf aP z.2.2.2))/\os.length<=z.2.2.1/\z.2.2.2=(PC left S m.cls.length++PP m left T m.aj.length++PK m left z.1).map sj)
  (λz=>m.aI.length-z.1) (0,ob,ti,ps) ⟨aS _,bh,eh,jL,by rw[gT];simp[PK]⟩ (Xv X0) ?_
 clear bh eh jL gT eL S5 kg hi hi' ti ps;rintro⟨i,ob,ti,ps⟩⟨hi,bh,eh,jL,gT⟩Ql an aw;dsimp only at hi bh eh jL gT ⊢;have eL:ps.length=m.cls.length+m.aj.length+i:=by rw[gT,eA,aK,aK,Dj,He,Rt]
 by_cases hi':i<m.aI.length
 ·have lk:=aF (d:=default) hi';obtain⟨q1,q2,q3,q4⟩:=aba hm hf lk;have h1:=U9 (m.aI.getD i default) left left.length (aM _) q1 Bv (λr hr=>by have:=hf.row hm r hr;omega) Bv q2 q3;have h2:=H3 (oX left (m.aI.getD i default));have c9:(PC left S m.cls.length++PP m left T m.aj.length++PK m left (i+1)).map sj=ps++[fT (oX left (m.aI.getD i default))]:=by
   rw[show PK m left (i+1)=PK m left i++[(oX left (m.aI.getD i default),!(decide ((m.aI.getD i default).bW=1099511627776)&&decide (0<oX left (m.aI.getD i default))))] from Hc _ i,<- bn,iJ,<- gT];congr 1;simp only[List.map_cons,sB,sj,fT,Bool.not_not];rw[abb hm eX lk (λx hx=>(q1 x hx).2)]
  have qL:=aA eh;have AN:=fC eh;have mz:=(aN.1 eh).1;have dS:=bh.len;generalize oX left (m.aI.getD i default)=v at *;generalize bC:m.aI.getD i default=c at *;((repeat'(first|refine Vc (X5 @eh @qL @AN @bC (X5 @cN.eq_1 @aP.eq_1 @fT.eq_1 @HY (X4 @a8 @bn.{0} @aK.{0} @bm.{0}))) (X2 h1 h2) ?_|(refine Xi ?_ ?_<;>try intro ht)|exact Xx|fail)))
  refine an _ (i+1,ob.set ti .gone++[.var (cN c),.arr 2 [aP (fT v)],.arr 2 (rowsOf aP (ps++[fT v]))],ob.length+2,ps++[fT v]) ⟨aad,(bh.set jL).app _,jJ _ _ _ _ _,aad,c9.symm⟩ aad ?_;exact Xv (X3 @aP.eq_1 @fT.eq_1 @cN.eq_1)
 have hiK:i=m.aI.length:=Bv;rw[hiK]at gT eL;rw[show PC left S m.cls.length++PP m left T m.aj.length++PK m left m.aI.length=tO m left (S,T) from rfl]at gT;have tF:(tO m left (S,T)).length=m.cls.length+m.aj.length+m.aI.length:=by unfold tO;rw[aK,aK,Dj,He,Rt]
 have S6:∀ p∈tO m left (S,T),-uN<=p.1/\p.1<=uN:=λp hp=>by
  unfold tO at hp;rw[bE,bE]at hp;rcases hp with(hp|hp)|hp
  ·exact Zo (by unfold uN;decide) hg.sb _ p hp
  ·exact Zp (by unfold uN;decide) hg.tb _ p hp
  ·have:=Zs hm _ p hp;unfold uN;omega
 generalize tO m left (S,T)=P at *;((repeat'(first|refine Va X0 ?_|(refine Xi ?_ ?_<;>try intro ht)|exact Xx|fail)))
 refine aw _ _ rfl ?_;clear an aw Ql;repeat(refine Xu ?_)
 refine Va @eh ?_;refine aW (λz:Nat×List Ob=>(⟨ao [(10,aam (fM (P.take z.1) (0,false)).1),(65,.ref ti 2 0 ps.length),(66,aam ps.length),(67,aam z.1)],z.2⟩:St))
  (λz=>z.1<=P.length/\cQ os z.2/\z.2[ti]?=some (.arr 2 (rowsOf aP ps))/\(fM (P.take z.1) (0,false)).2=false)
  (λz=>P.length-z.1) (0,ob) ⟨aS _,bh,eh,rfl⟩ (Xv (X3 @qT.{0} @fM.eq_1 @JI.{0,0})) ?_
 clear bh eh;rintro⟨j,ob⟩⟨hj,bh,eh,DS⟩Ql an aw;dsimp only at hj bh eh DS ⊢;have dS:=bh.len;have aeR:ps.length=P.length:=by rw[gT,eA]
 by_cases eF:j<P.length
 ·have lV:=jb eF;have ik:=Zm (P.take j) (P.getD j default) (0,false);rw[<- lV,DS,Bool.false_or]at ik;have zU:ps.getD j default=sj (P.getD j default):=by rw[gT,nP _ _ _ eF]
  have AS:=Rs (P.take j) (0,false) (λp hp=>S6 p (qY hp));rw[fE,Nat.min_eq_left hj]at AS;have S7:=S6 _ (aF (d:=default) eF);have abd:=aF (l:=P) (d:=default) eF;unfold uN at AS S7;dsimp only at AS;generalize (fM (P.take j) (0,false)).1=s at *;generalize P.getD j default=q at *;obtain⟨v,b⟩:=q;unfold sj at zU;dsimp only at zU ik S7;have qL:=aA eh;cases b
  ·have zh:(fM P (0,false)).2=true:=(S8 P 0).2 ⟨_,abd,rfl⟩;((repeat'(first|refine Va (X5 @eh @qL @zU @aP.eq_1 (X2 @a8 @Bool.not_false)) ?_|(refine Xi ?_ ?_<;>try intro ht)|exact Xx|fail)))
   repeat(refine Xu ?_)
   ((skip))
   unfold jm;simp only[fc,eM];simp(disch:=omega)only[Ac,↓Pc,simprocAttr];rw[if_pos zh];exact⟨_,_,⟨rfl,by rw[aK];omega⟩,dt rfl (by rw[aK];omega) rfl⟩
  ·((repeat'(first|refine Va (X5 @eh @qL @zU @aP.eq_1 (X2 @a8 @Bool.not_true)) ?_|(refine Xi ?_ ?_<;>try intro ht)|exact Xx|fail)))
   refine an _ (j+1,_) ⟨aad,bh.app [.var (aP (v,false))],qL _,by rw[ik];rfl⟩ aad ?_;simp only[ik];exact Xv @aP.eq_1
 ·rw[fD Bv]at DS;have abe:¬ (fM P (0,false)).2=true:=by rw[DS];simp
  ((repeat'(first|refine Va (fD (show P.length<=j by omega)) ?_|(refine Xi ?_ ?_<;>try intro ht)|exact Xx|fail)))
  refine aw _ _ rfl ?_;clear an aw Ql;repeat(refine Xu ?_)
  refine Vb X0 ?_;unfold jm;simp only[fc,eM];simp(disch:=omega)only[Ac,↓Pc,simprocAttr];rw[if_neg abe];exact⟨_,ob,⟨rfl,dS⟩,dt rfl dS rfl⟩
end T

