import Derived.Test.YtfoopmojjjpapaaGreatX28
set_option linter.all false
set_option maxHeartbeats 0
set_option maxRecDepth 20000
open List renaming append_assoc→bE,length_append→bO,cons_append→dx,nil_append→eC,set_cons_succ→y8,set_cons_zero→u4,length_cons→dq,length_nil→o8,take_zero→mD,mem_cons→bw,not_mem_nil→iM,length_map→fK,length_take→eY,map_nil→nQ,foldl_nil→AA,mem_of_mem_take→ss,take_of_length_le→dm,getElem?_eq_some_iff→aV,length_set→bJ,getElem?_set_ne→gA,map_append→dS,take→ja,drop→eR,mem_append→cG,mem_singleton→cV,replicate→aK,map_take→GO,map_replicate→Kq
open Nat renaming zero_add→gJ,zero_le→aS,le_refl→aY,min_eq_left→xS
open And renaming intro→c6
open Bool renaming not_false→kB
open Go Go.Am Go.Proofs
namespace T
def Nz(xs:List Nm)(n:Int):rowsOf ba xs++[[AV.lit (.int .i64 n),.lit (.bool (decide (1099511627776<=n)))]]=rowsOf ba (xs++[eP n]):=by simp[rowsOf,ba,eP]
def ajn{m:ah}(hm:VM m)(os:List Ob):cX Tryz.prog 78 [.agg (an m)] os λr ob=>∃ gi ai bi D E,r=.ptr gi 0 0/\LO ba (GB m gi ai bi D E) D E (S0 m) (T0 m) ob/\ic os ob:=by
 have rT:=hm.cls;have pT:=hm.ae;refine cX.aM 94 os.length [.tmp 2] Tryz.func78 ?_;refine Vb (X3 @bH @bE.{0} @bO.{0}) ?_;have kz1:(os++[Ob.var (an m),Ob.var (an m++[.lit (.slice none 0 0),.lit (.slice none 0 0)])])[os.length+1]?=some (.var (an m++[.lit (.slice none 0 0),.lit (.slice none 0 0)])):=by rw[kP];rfl
 refine cL (aH.rA (os.length+1) 4 1 kz1 rfl GS) ?_;simp only[bE,dx,eC,E6,y8,u4,bO,dq,o8,an,gJ,Nat.reduceAdd];clear kz1;refine cL (aH.rA (os.length+1) 5 1 (by rw[kP];rfl) rfl GS) ?_;simp only[bE,dx,eC,E6,y8,u4,bO,dq,o8,gJ,Nat.reduceAdd];have uL:LO ba [(os.length+1,.var (gC m (os.length+2) (os.length+3) [] [])),(os.length+2,.arr 1 (rowsOf cE [])),(os.length,.var (an m)),(os.length+3,.arr 1 (rowsOf cE []))] [] [] ((S0 m).take 0) [] (os++[.var (an m),.var (gC m (os.length+2) (os.length+3) [] []),.arr 1 [],.arr 1 []]):=by
  refine⟨λb hb=>?_,by rw[mD];exact RI.nil,RI.nil,GM⟩;simp only[bw,iM,or_false]at hb;rcases hb with rfl|rfl|rfl|rfl
  ·exact⟨by rw[kP];rfl,GM⟩
  ·exact⟨by rw[kP];rfl,GM⟩
  ·exact⟨by rw[kl],GM⟩
  ·exact⟨by rw[kP];rfl,GM⟩
 refine aR (λz:Nat×List Ob×Nat×List (Nat×Nat)=>(⟨ao [(1,.ptr os.length 0 0),(3,.ptr (os.length+1) 0 0),(21,.tree 1 (rowsOf aW m.cls)),(22,Qf m.cls.length),(23,Qf z.1)],z.2.1⟩:St))
  (λz=>z.1<=m.cls.length/\z.2.2.2.length=z.1/\LO ba [(os.length+1,.var (gC m z.2.2.1 (os.length+3) z.2.2.2 [])),(z.2.2.1,.arr 1 (rowsOf cE z.2.2.2)),(os.length,.var (an m)),(os.length+3,.arr 1 (rowsOf cE []))] z.2.2.2 [] ((S0 m).take z.1) [] z.2.1/\ic os z.2.1/\os.length+1<z.2.2.1/\z.2.2.1≠os.length+3)
  (λz=>m.cls.length-z.1) (0,os++[.var (an m),.var (gC m (os.length+2) (os.length+3) [] []),.arr 1 [],.arr 1 []],os.length+2,[]) ⟨aS _,rfl,uL,(ic.refl os).app _,PW,PW⟩ (Xv X0) ?_
 clear uL;rintro⟨i,ob,ai,D⟩⟨hi,hD,hL,bf,A9,NA⟩Ql ak aq;dsimp only at hi hD hL bf A9 NA ⊢;by_cases ar:i<m.cls.length
 ·have kj:=aF (d:=default) ar;have sU:=hm.opt _ kj;have ez:(S0 m).take (i+1)=(S0 m).take i++[dJ (b9 (m.cls.getD i default))]:=by
   rw[eu (by unfold S0;rw[fK];exact ar)];unfold S0;rw[iS _ _ _ ar]
  have l7:=λo ho=>hm.sW _ kj o ho;have aaQ:=λo ho=>aaR hm kj (o:=o) ho;generalize bc:m.cls.getD i default=c at *;((repeat'(first|refine Va (X2 @bc @aW.eq_1) ?_|(refine Xi ?_ ?_<;>try intro ht)|exact Xx|fail)))
  have vX:(dJ (b9 c)).length=c.length:=by unfold dJ b9;simp
  refine aR (λz:Nat×List Ob×Nat×List Nm=>(⟨ao [(1,.ptr os.length 0 0),(3,.ptr (os.length+1) 0 0),(21,.tree 1 (rowsOf aW m.cls)),(22,Qf m.cls.length),(23,Qf i),(6,.ref z.2.2.1 2 0 z.2.2.2.length),(27,.tree 6 (rowsOf cp c)),(28,Qf c.length),(29,Qf z.1)],z.2.1⟩:St))
   (λz=>z.1<=c.length/\LO ba [(os.length+1,.var (gC m ai (os.length+3) D [])),(ai,.arr 1 (rowsOf cE D)),(os.length,.var (an m)),(os.length+3,.arr 1 (rowsOf cE []))] D [] ((S0 m).take i) [] z.2.1/\ic os z.2.1/\z.2.1[z.2.2.1]?=some (.arr 2 (rowsOf ba z.2.2.2))/\z.2.2.1 ∉ List.map (λq:Nat×Nat=>q.1) (D++[])/\os.length<=z.2.2.1/\z.2.2.2=(dJ (b9 c)).take z.1)
   (λz=>c.length-z.1) (0,ob++[.arr 2 []],ob.length,[]) ⟨aS _,hL.app _,bf.app _,kl _ _ _,hL.fresh (aY _),bf.len,rfl⟩ ?_ ?_
  ·refine aH.trans (aH.nil 6 2 (by simp only[Kc,simprocAttr]) GS) ?_;exact Xv X0
  clear hL bf;rintro⟨k,ok,oi,xs⟩⟨hk,hL,bf,lR,dU,pU,dz⟩cJ bj br;dsimp only at hk hL bf lR dU pU dz ⊢;by_cases bg:k<c.length
  ·have gf:=aF (l:=c) (d:=default) bg;have aaS:=Ir (l7 _ gf);have ao2:=aaQ _ gf;have H7:(dJ (b9 c)).getD k default=eP (rK (c.getD k default)):=by
    unfold dJ b9;rw[List.map_map,iS _ _ _ bg];rfl
   have Dr:=eu (l:=dJ (b9 c)) (k:=k) GK;rw[H7,<- dz]at Dr;have vC:xs.length=k:=by rw[dz,eY];omega
   generalize uM:c.getD k default=o at *;((repeat'(first|refine Va (X3 @uM @bH @cp.eq_1) ?_|(refine Xi ?_ ?_<;>try intro ht)|exact Xx|fail)))
   refine aR (λz:Nat×List Ob=>(⟨ao [(1,.ptr os.length 0 0),(3,.ptr (os.length+1) 0 0),(21,.tree 1 (rowsOf aW m.cls)),(22,Qf m.cls.length),(23,Qf i),(6,.ref oi 2 0 xs.length),(27,.tree 6 (rowsOf cp c)),(28,Qf c.length),(29,Qf k),(9,Qf (((o.ch.take z.1).map (·.2)).foldl eB 0)),(34,.tree 2 (rowsOf bd o.ch)),(35,Qf o.ch.length),(36,Qf z.1)],z.2⟩:St))
    (λz=>z.1<=o.ch.length/\LO ba [(os.length+1,.var (gC m ai (os.length+3) D [])),(ai,.arr 1 (rowsOf cE D)),(os.length,.var (an m)),(os.length+3,.arr 1 (rowsOf cE []))] D [] ((S0 m).take i) [] z.2/\ic os z.2/\z.2[oi]?=some (.arr 2 (rowsOf ba xs)))
    (λz=>o.ch.length-z.1) (0,ok++[.var (cp o)]) ⟨aS _,hL.app _,bf.app _,aN lR _⟩ (Xv (X4 @mD.{0} @nQ.{0,0} @AA.{0,0} @cp.eq_1)) ?_
   clear hL bf lR;rintro⟨q,oq⟩⟨hq,hL,bf,lR⟩mq gm fk;dsimp only at hq hL bf lR ⊢;have hs:=E4 ((o.ch.take q).map (·.2)) 0 (λx hx=>by
    obtain⟨c,fY,rfl⟩:=List.mem_map.1 hx;exact aaS c (ss fY)) (by unfold bT;decide)
   by_cases xn:q<o.ch.length
   ·have ajo:=aaS _ (aF (d:=default) xn);have dV:=UM o.ch q xn;generalize ((o.ch.take q).map (·.2)).foldl eB 0=s at *;have xA:=aiN s (o.ch.getD q default).2 hs ajo;generalize pV:o.ch.getD q default=y at *;((repeat'(first|refine Vc (X3 @pV @bH @bd.eq_1) xA ?_|(refine Xi ?_ ?_<;>try intro ht)|exact Xx|fail)))
    refine gm _ (q+1,oq++[.var (bd y)]) ⟨PW,hL.app _,bf.app _,aN lR _⟩ PW ?_;simp only[dV];exact Xv @bd.eq_1
   ·have lv:((o.ch.take q).map (·.2)).foldl eB 0=rK o:=by rw[dm GK];rfl
    rw[lv]at hs;rw[<- lv]at Dr;generalize ((o.ch.take q).map (·.2)).foldl eB 0=s at *;have NC:=ND s;have eoi:=aN lR;have NF:=iy lR;have nt:=(aV.1 lR).1;((repeat'(first|refine Va X0 ?_|(refine Xi ?_ ?_<;>try intro ht)|exact Xx|fail)))
    refine fk _ _ rfl ?_;clear gm fk mq;repeat(refine Xu ?_)
    refine Vc (X5 @lR @eoi @NF @ba.eq_1 (X5 @eP.eq_1 @bH @bE.{0} @bO.{0} (X2 @bJ.{0} @Nz))) NC ?_;have mU:=(hL.Iw (y:=.gone) dU lR).app [.arr 2 [ba (eP s)],.arr 2 (rowsOf ba (xs++[eP s]))];refine bj _ (k+1,oq.set oi .gone++[.arr 2 [ba (eP s)],.arr 2 (rowsOf ba (xs++[eP s]))],oq.length+1,xs++[eP s]) ⟨PW,mU,(bf.set pU).app _,pL _ _ _ _ _,(hL.Iw (y:=.gone) dU lR).fresh (by dsimp only;rw[bJ];omega),by dsimp only;have:=bf.len;omega,Dr.symm⟩ PW ?_;exact Xv (X2 @ba.eq_1 @eP.eq_1)
  ·rw[dm GK]at dz;have sQ:=(hL.base (os.length+1,.var (gC m ai (os.length+3) D [])) GM).1;have vY:=(hL.base (ai,.arr 1 (rowsOf cE D)) GM).1;dsimp only at sQ vY;have NG:=aN sQ;have NH:=aN vY;have NI:=iy vY;have qZ:(ok.set ai .gone)[os.length+1]?=some (.var (gC m ai (os.length+3) D [])):=by rw[gA GK];exact sQ
   have qM:=aN qZ;have NJ:=iy qZ;have dV:=hL.step lR dU (by simp only[bw,iM,or_false,forall_eq_or_imp,forall_eq];omega) [.tree 1 (rowsOf aW m.cls),.tree 4 (rowsOf aI m.ae),.tree 4 (rowsOf dv m.aD),Qf m.rules,.ref (ok.length+1) 1 0 (D.length+1),.ref (os.length+3) 1 0 0] (rowsOf cE (D++[(oi,xs.length)])) (.arr 1 [[.ref oi 2 0 xs.length]]);have NK:gC m (ok.length+1) (os.length+3) (D++[(oi,xs.length)]) []=[.tree 1 (rowsOf aW m.cls),.tree 4 (rowsOf aI m.ae),.tree 4 (rowsOf dv m.aD),Qf m.rules,.ref (ok.length+1) 1 0 (D.length+1),.ref (os.length+3) 1 0 0]:=by simp[gC]
   have hb3:=(aV.1 (hL.base (os.length+3,.arr 1 (rowsOf cE [])) GM).1).1;have lI:=(aV.1 vY).1;dsimp only at hb3;((repeat'(first|refine Va X0 ?_|(refine Xi ?_ ?_<;>try intro ht)|exact Xx|fail)))
   refine br _ _ rfl ?_;clear bj br cJ;repeat(refine Xu ?_)
   refine Va (X5 @sQ @vY @NG @NH (X5 @NI @qM @NJ @gC.eq_1 (X5 @It @bH @bE.{0} @bO.{0} @bJ.{0}))) ?_;refine ak _ (i+1,_,ok.length+1,D++[(oi,xs.length)]) ⟨PW,P2,by dsimp only;rw[ez,<- dz,NK];exact dV,((bf.set GK).set GK).app _,PW,PW⟩ PW ?_;exact Xv X0
 rw[dm (by unfold S0;rw[fK];omega)]at hL;have yj:=(hL.base (os.length,.var (an m)) GM).1;dsimp only at yj;((repeat'(first|refine Va @yj ?_|(refine Xi ?_ ?_<;>try intro ht)|exact Xx|fail)))
 refine aq _ _ rfl ?_;clear ak aq Ql;repeat(refine Xu ?_)
 refine Va @yj ?_;have hL0:LO ba [(os.length+1,.var (gC m ai (os.length+3) D [])),(os.length+3,.arr 1 (rowsOf cE [])),(os.length,.var (an m)),(ai,.arr 1 (rowsOf cE D))] [] D ((T0 m).take 0) (S0 m) ob:=hL.swap.sub (by simp only[bw,iM,or_false];intro b hb;rcases hb with rfl|rfl|rfl|rfl<;>simp);refine aR (λz:Nat×List Ob×Nat×List (Nat×Nat)=>(⟨ao [(1,.ptr os.length 0 0),(3,.ptr (os.length+1) 0 0),(63,.tree 4 (rowsOf aI m.ae)),(64,Qf m.ae.length),(65,Qf z.1)],z.2.1⟩:St))
  (λz=>z.1<=m.ae.length/\z.2.2.2.length=z.1/\LO ba [(os.length+1,.var (gC m ai z.2.2.1 D z.2.2.2)),(z.2.2.1,.arr 1 (rowsOf cE z.2.2.2)),(os.length,.var (an m)),(ai,.arr 1 (rowsOf cE D))] z.2.2.2 D ((T0 m).take z.1) (S0 m) z.2.1/\ic os z.2.1/\os.length+1<z.2.2.1/\ai≠z.2.2.1)
  (λz=>m.ae.length-z.1) (0,ob,os.length+3,[]) ⟨aS _,rfl,hL0,bf,PW,NA⟩ (Xv X0) ?_
 clear hL hL0 bf yj hi ar NA ob;rintro⟨i,ob,bi,E⟩⟨hi,hE,hL,bf,gF,ju⟩Ql ak aq;dsimp only at hi hE hL bf gF ju ⊢;by_cases ar:i<m.ae.length
 ·have dO:=j6 hm.pr _ (aF (d:=default) ar);have oz:=Ds dO hm;have kS:=Ii dO;have ez:(T0 m).take (i+1)=(T0 m).take i++[dJ (m.ae.getD i default).ay]:=by
   rw[eu (by unfold T0;rw[fK];exact ar)];unfold T0;rw[iS _ _ _ ar]
  generalize cg:m.ae.getD i default=p at *;((repeat'(first|refine Va (X3 @cg @bH @aI.eq_1) ?_|(refine Xi ?_ ?_<;>try intro ht)|exact Xx|fail)))
  have vX:(dJ p.ay).length=p.ay.length:=by unfold dJ;simp
  refine aR (λz:Nat×List Ob×Nat×List Nm=>(⟨ao [(1,.ptr os.length 0 0),(3,.ptr (os.length+1) 0 0),(63,.tree 4 (rowsOf aI m.ae)),(64,Qf m.ae.length),(65,Qf i),(14,.ref z.2.2.1 2 0 z.2.2.2.length),(70,.tree 1 (ints p.ay)),(71,Qf p.ay.length),(72,Qf z.1)],z.2.1⟩:St))
   (λz=>z.1<=p.ay.length/\LO ba [(os.length+1,.var (gC m ai bi D E)),(bi,.arr 1 (rowsOf cE E)),(os.length,.var (an m)),(ai,.arr 1 (rowsOf cE D))] E D ((T0 m).take i) (S0 m) z.2.1/\ic os z.2.1/\z.2.1[z.2.2.1]?=some (.arr 2 (rowsOf ba z.2.2.2))/\z.2.2.1 ∉ List.map (λq:Nat×Nat=>q.1) (E++D)/\os.length<=z.2.2.1/\z.2.2.2=(dJ p.ay).take z.1)
   (λz=>p.ay.length-z.1) (0,(ob++[.var (aI p)])++[.arr 2 []],(ob++[Ob.var (aI p)]).length,[]) ⟨aS _,(hL.app _).app _,(bf.app _).app _,kl _ _ _,(hL.app [.var (aI p)]).fresh (aY _),by simp;have:=bf.len;omega,rfl⟩ ?_ ?_
  ·refine aH.trans (aH.nil 14 2 (by simp only[Kc,simprocAttr]) GS) ?_;exact Xv X0
  clear hL bf;rintro⟨k,ok,oi,xs⟩⟨hk,hL,bf,lR,dU,pU,dz⟩cJ bj br;dsimp only at hk hL bf lR dU pU dz ⊢;by_cases bg:k<p.ay.length
  ·have H7:(dJ p.ay).getD k default=eP (p.ay.getD k 0):=by
    unfold dJ;rw[iS _ _ _ bg];rfl
   have Dr:=eu (l:=dJ p.ay) (k:=k) GK;rw[H7,<- dz]at Dr;have vC:xs.length=k:=by rw[dz,eY];omega
   have hs:=kS _ (aF (d:=0) bg);unfold bT at hs;generalize pV:p.ay.getD k 0=s at *;have NC:=ND s;have eoi:=aN lR;have NF:=iy lR;have nt:=(aV.1 lR).1;((repeat'(first|refine Vc (X5 @pV @lR @eoi @NF (X5 @ba.eq_1 @eP.eq_1 @bH @bE.{0} (X3 @bO.{0} @bJ.{0} @Nz))) NC ?_|(refine Xi ?_ ?_<;>try intro ht)|exact Xx|fail)))
   have mU:=(hL.Iw (y:=.gone) dU lR).app [.arr 2 [ba (eP s)],.arr 2 (rowsOf ba (xs++[eP s]))];refine bj _ (k+1,ok.set oi .gone++[.arr 2 [ba (eP s)],.arr 2 (rowsOf ba (xs++[eP s]))],ok.length+1,xs++[eP s]) ⟨PW,mU,(bf.set pU).app _,pL _ _ _ _ _,(hL.Iw (y:=.gone) dU lR).fresh (by dsimp only;rw[bJ];omega),by dsimp only;have:=bf.len;omega,Dr.symm⟩ PW ?_;exact Xv (X2 @ba.eq_1 @eP.eq_1)
  ·rw[dm GK]at dz;have sQ:=(hL.base (os.length+1,.var (gC m ai bi D E)) GM).1;have vY:=(hL.base (bi,.arr 1 (rowsOf cE E)) GM).1;have ha3:=(aV.1 (hL.base (ai,.arr 1 (rowsOf cE D)) GM).1).1;dsimp only at sQ vY ha3;have NG:=aN sQ;have NH:=aN vY;have NI:=iy vY;have qZ:(ok.set bi .gone)[os.length+1]?=some (.var (gC m ai bi D E)):=by rw[gA GK];exact sQ
   have qM:=aN qZ;have NJ:=iy qZ;have dV:=hL.step lR dU (by simp only[bw,iM,or_false,forall_eq_or_imp,forall_eq];omega) [.tree 1 (rowsOf aW m.cls),.tree 4 (rowsOf aI m.ae),.tree 4 (rowsOf dv m.aD),Qf m.rules,.ref ai 1 0 D.length,.ref (ok.length+1) 1 0 (E.length+1)] (rowsOf cE (E++[(oi,xs.length)])) (.arr 1 [[.ref oi 2 0 xs.length]]);have NK:gC m ai (ok.length+1) D (E++[(oi,xs.length)])=[.tree 1 (rowsOf aW m.cls),.tree 4 (rowsOf aI m.ae),.tree 4 (rowsOf dv m.aD),Qf m.rules,.ref ai 1 0 D.length,.ref (ok.length+1) 1 0 (E.length+1)]:=by simp[gC]
   have lI:=(aV.1 vY).1;((repeat'(first|refine Va X0 ?_|(refine Xi ?_ ?_<;>try intro ht)|exact Xx|fail)))
   refine br _ _ rfl ?_;clear bj br cJ;repeat(refine Xu ?_)
   refine Va (X5 @sQ @vY @NG @NH (X5 @NI @qM @NJ @gC.eq_1 (X5 @It @bH @bE.{0} @bO.{0} @bJ.{0}))) ?_;refine ak _ (i+1,_,ok.length+1,E++[(oi,xs.length)]) ⟨PW,P2,by dsimp only;rw[ez,<- dz,NK];exact dV,((bf.set GK).set GK).app _,PW,PW⟩ PW ?_;exact Xv X0
 rw[dm (by unfold T0;rw[fK];omega)]at hL;((repeat'(first|refine Va X0 ?_|(refine Xi ?_ ?_<;>try intro ht)|exact Xx|fail)))
 refine aq _ _ rfl ?_;clear ak aq Ql;repeat(refine Xu ?_)
 refine Vb X0 ?_;unfold eU;simp only[dI,dE];simp(disch:=omega)only[Ac,↓Pc,simprocAttr];refine⟨.ptr (os.length+1) 0 0,ob,⟨os.length+1,ai,bi,D,E,rfl,hL.swap.sub ?_,bf⟩,eF rfl bf.len rfl⟩;simp only[bw,iM,or_false];intro b hb;rcases hb with rfl|rfl|rfl<;>simp
def aaU(xs:List Nm)(q:Nm):rowsOf ba xs++[[AV.lit (.int .i64 q.1),.lit (.bool q.2)]]=rowsOf ba (xs++[q]):=by simp[rowsOf,ba]
def ajr{m:ah}(hm:VM m){gi ai bi:Nat}{D E:List (Nat×Nat)}{S T:List (List Nm)}{os:List Ob}(h:LO ba (GB m gi ai bi D E) D E S T os)(hg:LG m mf (S,T)){left:List (List Bool)}(hf:dh m left):
  cX Tryz.prog 81 [.ptr gi 0 0,.tree 1 (rowsOf aC left)] os λr ob=>r=Qf (l8 m left (S,T))/\os.length<=ob.length:=by
 obtain⟨fg,fa,fb⟩:=Bp h;have eg:=aN fg;have ea:=aN fa;have eb:=aN fb;have hD:=h.rD.len;have hE:=h.rE.len;have jr:S.length=m.cls.length:=hg.s;have Fp:T.length=m.ae.length:=hg.t;have rT:=hm.cls;have pT:=hm.ae;have uN:=hm.aD;have iP:=hf.1;rw[ahp];refine cX.aM 80 os.length [.tmp 4] Tryz.func81 ?_;refine Vb (X3 @fg @fa @gC.eq_1) ?_;have yE:D.length=m.cls.length:=GK;refine aR (λz:Nat×List Ob×Nat×List Nm=>(⟨ao [(0,.ptr gi 0 0),(1,.tree 1 (rowsOf aC left)),(5,.ref z.2.2.1 2 0 z.2.2.2.length),(17,Qf m.cls.length),(18,Qf z.1)],z.2.1⟩:St))
  (λz=>z.1<=m.cls.length/\ic os z.2.1/\z.2.1[z.2.2.1]?=some (.arr 2 (rowsOf ba z.2.2.2))/\os.length<=z.2.2.1/\z.2.2.2=(PC left S z.1).map xe)
  (λz=>m.cls.length-z.1) (0,os++[.arr 2 []],os.length,[]) ⟨aS _,(ic.refl _).app _,kl _ _ _,aY _,rfl⟩ ?_ ?_
 ·refine aH.trans (aH.nil 5 2 (by simp only[Kc,simprocAttr]) GS) ?_;exact Xv @yE
 rintro⟨i,ob,ti,ps⟩⟨hi,bf,eX,kS,gk⟩Ql ak aq;dsimp only at hi bf eX kS gk ⊢;have dg:ps.length=i:=by rw[gk,fK,C5]
 by_cases ar:i<m.cls.length
 ·have mQ:=ajs hm (h.ek bf) hg hf i ar;have dV:(PC left S (i+1)).map xe=ps++[uB (j7 (S.getD i default) (left.getD i default))]:=by
   rw[show PC left S (i+1)=PC left S i++[dC (S.getD i default) (left.getD i default) (0,false)] from zM _ i,dS,<- gk,Un];rfl
  have yF:=aaV (j7 (S.getD i default) (left.getD i default)) (by have:=MG (S.getD i default) (left.getD i default);have:=hg.sl i ar;have:=hm.opt _ (aF (d:=default) ar);dsimp only at *;omega);generalize j7 (S.getD i default) (left.getD i default)=NL at *;generalize uB NL=q at *;repeat'(first|((fail_if_success (first|refine eM 5 ?_|refine eN 5 ?_));refine Xr X0 ?_;intro K hK)|(refine hK _ ?_;clear hK K)|(refine Xi ?_ ?_<;>try intro ht)|refine Xy ?_|exact Xx|fail)
  refine oa 4 GS _ rfl ?_;intro K hK;simp(disch:=omega)only[Ac,↓Pc,simprocAttr,ja,eR];refine⟨rfl,(show j1 Tryz.prog 115 [.ptr gi 0 0,Qf i,.tree 1 (rowsOf aC left)] (some 25) _ _ from ?_)⟩;refine rS mQ ?_;rintro r yG⟨bz,id,rfl,bX⟩;refine⟨bz.len,?_⟩;have BE:=bz _ _ eX;have NM:=aN BE;have NN:=iy BE;have eG:=(bf.trans bz).len;simp(disch:=omega)only[Ac,↓Pc,simprocAttr,eR];refine xW [] yF GM trivial ⟨aZ.fz bX (by rw[cH]) GM,trivial⟩ rfl GM ?_;simp(disch:=omega)only[Ac,↓Pc,simprocAttr,BE,NM,NN,ba,aaU,bH,bE,bO,bJ];repeat'(first|with_reducible refine c6 ?_ ?_|omega)
  refine hK _ ?_;clear hK K;repeat(refine Xu ?_)
  refine Va X0 ?_;refine ak _ (i+1,yG.set ti .gone++[.arr 2 [ba q],.arr 2 (rowsOf ba (ps++[q]))],yG.length+1,ps++[q]) ⟨PW,((bf.trans bz).set kS).app _,pL _ _ _ _ _,PW,dV.symm⟩ PW ?_;exact Xv @ba.eq_1
 have IX:i=m.cls.length:=GK;rw[IX]at gk;have kg:=bf _ _ fg;have kb:=bf _ _ fb;have ajt:E.length=m.ae.length:=GK;((repeat'(first|refine Va X0 ?_|(refine Xi ?_ ?_<;>try intro ht)|exact Xx|fail)))
 refine aq _ _ rfl ?_;clear ak aq Ql;repeat(refine Xu ?_)
 refine Va (X3 @kg @kb @gC.eq_1) ?_;refine aR (λz:Nat×List Ob×Nat×List Nm=>(⟨ao [(0,.ptr gi 0 0),(1,.tree 1 (rowsOf aC left)),(5,.ref z.2.2.1 2 0 z.2.2.2.length),(34,Qf m.ae.length),(35,Qf z.1)],z.2.1⟩:St))
  (λz=>z.1<=m.ae.length/\ic os z.2.1/\z.2.1[z.2.2.1]?=some (.arr 2 (rowsOf ba z.2.2.2))/\os.length<=z.2.2.1/\z.2.2.2=(PC left S m.cls.length++PP m left T z.1).map xe)
  (λz=>m.ae.length-z.1) (0,ob,ti,ps) ⟨aS _,bf,eX,kS,by rw[gk];simp[PP]⟩ (Xv @ajt) ?_
 clear bf eX kS gk dg IX kg kb hi ar ti ps;rintro⟨i,ob,ti,ps⟩⟨hi,bf,eX,kS,gk⟩Ql ak aq;dsimp only at hi bf eX kS gk ⊢;have dg:ps.length=m.cls.length+i:=by rw[gk,fK,bO,C5,E0]
 by_cases ar:i<m.ae.length
 ·have mQ:=aju hm (h.ek bf) hg hf i ar;have dV:(PC left S m.cls.length++PP m left T (i+1)).map xe=ps++[uB (j7 (T.getD i default) (iI m left i))]:=by
   rw[show PP m left T (i+1)=PP m left T i++[dC (T.getD i default) (iI m left i) (0,false)] from zM _ i,<- bE,dS,<- gk,Un];rfl
  have yF:=aaV (j7 (T.getD i default) (iI m left i)) (by have:=MG (T.getD i default) (iI m left i);have:=hg.tl i ar;have:=Ds (j6 hm.pr _ (aF (d:=default) ar)) hm;dsimp only at *;omega);generalize j7 (T.getD i default) (iI m left i)=NL at *;generalize uB NL=q at *;repeat'(first|((fail_if_success (first|refine eM 10 ?_|refine eN 10 ?_));refine Xr X0 ?_;intro K hK)|(refine hK _ ?_;clear hK K)|(refine Xi ?_ ?_<;>try intro ht)|refine Xy ?_|exact Xx|fail)
  refine oa 4 GS _ rfl ?_;intro K hK;simp(disch:=omega)only[Ac,↓Pc,simprocAttr,ja,eR];refine⟨rfl,(show j1 Tryz.prog 116 [.ptr gi 0 0,Qf i,.tree 1 (rowsOf aC left)] (some 42) _ _ from ?_)⟩;refine rS mQ ?_;rintro r yG⟨bz,id,rfl,bX⟩;refine⟨bz.len,?_⟩;have BE:=bz _ _ eX;have NM:=aN BE;have NN:=iy BE;have eG:=(bf.trans bz).len;simp(disch:=omega)only[Ac,↓Pc,simprocAttr,eR];refine xW [] yF GM trivial ⟨aZ.fz bX (by rw[cH]) GM,trivial⟩ rfl GM ?_;simp(disch:=omega)only[Ac,↓Pc,simprocAttr,BE,NM,NN,ba,aaU,bH,bE,bO,bJ];repeat'(first|with_reducible refine c6 ?_ ?_|omega)
  refine hK _ ?_;clear hK K;repeat(refine Xu ?_)
  refine Va X0 ?_;refine ak _ (i+1,yG.set ti .gone++[.arr 2 [ba q],.arr 2 (rowsOf ba (ps++[q]))],yG.length+1,ps++[q]) ⟨PW,((bf.trans bz).set kS).app _,pL _ _ _ _ _,PW,dV.symm⟩ PW ?_;exact Xv @ba.eq_1
 have IY:i=m.ae.length:=GK;rw[IY]at gk;have kg:=bf _ _ fg;((repeat'(first|refine Va X0 ?_|(refine Xi ?_ ?_<;>try intro ht)|exact Xx|fail)))
 refine aq _ _ rfl ?_;clear ak aq Ql;repeat(refine Xu ?_)
 refine Va (X2 @kg @gC.eq_1) ?_;refine aR (λz:Nat×List Ob×Nat×List Nm=>(⟨ao [(1,.tree 1 (rowsOf aC left)),(5,.ref z.2.2.1 2 0 z.2.2.2.length),(51,.tree 4 (rowsOf dv m.aD)),(52,Qf m.aD.length),(53,Qf z.1)],z.2.1⟩:St))
  (λz=>z.1<=m.aD.length/\ic os z.2.1/\z.2.1[z.2.2.1]?=some (.arr 2 (rowsOf ba z.2.2.2))/\os.length<=z.2.2.1/\z.2.2.2=(PC left S m.cls.length++PP m left T m.ae.length++PK m left z.1).map xe)
  (λz=>m.aD.length-z.1) (0,ob,ti,ps) ⟨aS _,bf,eX,kS,by rw[gk];simp[PK]⟩ (Xv X0) ?_
 clear bf eX kS gk dg IY kg hi ar ti ps;rintro⟨i,ob,ti,ps⟩⟨hi,bf,eX,kS,gk⟩Ql ak aq;dsimp only at hi bf eX kS gk ⊢;have dg:ps.length=m.cls.length+m.ae.length+i:=by rw[gk,fK,bO,bO,C5,E0,Ij]
 by_cases ar:i<m.aD.length
 ·have kj:=aF (d:=default) ar;obtain⟨q1,q2,q3,q4⟩:=NO hm hf kj;have h1:=ajv (m.aD.getD i default) left left.length (aY _) q1 GK (λr hr=>by have:=hf.row hm r hr;omega) GK q2 q3;have h2:=ND (jg left (m.aD.getD i default));have dV:(PC left S m.cls.length++PP m left T m.ae.length++PK m left (i+1)).map xe=ps++[eP (jg left (m.aD.getD i default))]:=by
   rw[show PK m left (i+1)=PK m left i++[(jg left (m.aD.getD i default),!(decide ((m.aD.getD i default).cf=1099511627776)&&decide (0<jg left (m.aD.getD i default))))] from zM _ i,<- bE,dS,<- gk];congr 1;simp only[List.map_cons,nQ,xe,eP,Bool.not_not];rw[ahq hm iP kj (λx hx=>(q1 x hx).2)]
  have tg:=aN eX;have Fz:=iy eX;have oz:=(aV.1 eX).1;have eG:=bf.len;generalize jg left (m.aD.getD i default)=v at *;generalize bc:m.aD.getD i default=c at *;((repeat'(first|refine Vc (X5 @eX @tg @Fz @bc (X5 @dv.eq_1 @ba.eq_1 @eP.eq_1 @Nz (X4 @bH @bE.{0} @bO.{0} @bJ.{0}))) (X2 h1 h2) ?_|(refine Xi ?_ ?_<;>try intro ht)|exact Xx|fail)))
  refine ak _ (i+1,ob.set ti .gone++[.var (dv c),.arr 2 [ba (eP v)],.arr 2 (rowsOf ba (ps++[eP v]))],ob.length+2,ps++[eP v]) ⟨PW,(bf.set kS).app _,pL _ _ _ _ _,PW,dV.symm⟩ PW ?_;exact Xv (X3 @ba.eq_1 @eP.eq_1 @dv.eq_1)
 have NP:i=m.aD.length:=GK;rw[NP]at gk dg;rw[show PC left S m.cls.length++PP m left T m.ae.length++PK m left m.aD.length=yu m left (S,T) from rfl]at gk;have IZ:(yu m left (S,T)).length=m.cls.length+m.ae.length+m.aD.length:=by unfold yu;rw[bO,bO,C5,E0,Ij]
 have hPr:∀ p∈yu m left (S,T),-mf<=p.1/\p.1<=mf:=λp hp=>by
  unfold yu at hp;rw[cG,cG]at hp;rcases hp with(hp|hp)|hp
  ·exact MC (by unfold mf;decide) hg.sb _ p hp
  ·exact MD (by unfold mf;decide) hg.tb _ p hp
  ·have:=ME hm _ p hp;unfold mf;omega
 generalize yu m left (S,T)=P at *;((repeat'(first|refine Va X0 ?_|(refine Xi ?_ ?_<;>try intro ht)|exact Xx|fail)))
 refine aq _ _ rfl ?_;clear ak aq Ql;repeat(refine Xu ?_)
 refine Va @eX ?_;refine aR (λz:Nat×List Ob=>(⟨ao [(10,Qf (bQ (P.take z.1) (0,false)).1),(65,.ref ti 2 0 ps.length),(66,Qf ps.length),(67,Qf z.1)],z.2⟩:St))
  (λz=>z.1<=P.length/\ic os z.2/\z.2[ti]?=some (.arr 2 (rowsOf ba ps))/\(bQ (P.take z.1) (0,false)).2=false)
  (λz=>P.length-z.1) (0,ob) ⟨aS _,bf,eX,rfl⟩ (Xv (X3 @mD.{0} @bQ.eq_1 @AA.{0,0})) ?_
 clear bf eX;rintro⟨j,ob⟩⟨hj,bf,eX,I0⟩Ql ak aq;dsimp only at hj bf eX I0 ⊢;have eG:=bf.len;have ao3:ps.length=P.length:=by rw[gk,fK]
 by_cases fe:j<P.length
 ·have gR:=eu fe;have fc:=C4 (P.take j) (P.getD j default) (0,false);rw[<- gR,I0,Bool.false_or]at fc;have A3:ps.getD j default=xe (P.getD j default):=by rw[gk,iS _ _ _ fe]
  have jM:=zP (P.take j) (0,false) (λp hp=>hPr p (ss hp));rw[eY,xS hj]at jM;have hrq:=hPr _ (aF (d:=default) fe);have ajw:=aF (l:=P) (d:=default) fe;unfold mf at jM hrq;dsimp only at jM;generalize (bQ (P.take j) (0,false)).1=s at *;generalize P.getD j default=q at *;obtain⟨v,b⟩:=q;unfold xe at A3;dsimp only at A3 fc hrq;have tg:=aN eX;cases b
  ·have ym:(bQ P (0,false)).2=true:=(Uq P 0).2 ⟨_,ajw,rfl⟩;((repeat'(first|refine Va (X5 @eX @tg @A3 @ba.eq_1 (X2 @bH @kB)) ?_|(refine Xi ?_ ?_<;>try intro ht)|exact Xx|fail)))
   repeat(refine Xu ?_)
   ((skip))
   unfold eU;simp only[dI,dE];simp(disch:=omega)only[Ac,↓Pc,simprocAttr];rw[if_pos ym];exact⟨_,_,⟨rfl,by rw[bO];omega⟩,eF rfl (by rw[bO];omega) rfl⟩
  ·((repeat'(first|refine Va (X5 @eX @tg @A3 @ba.eq_1 (X2 @bH @Bool.not_true)) ?_|(refine Xi ?_ ?_<;>try intro ht)|exact Xx|fail)))
   refine ak _ (j+1,_) ⟨PW,bf.app [.var (ba (v,false))],tg _,by rw[fc];rfl⟩ PW ?_;simp only[fc];exact Xv @ba.eq_1
 ·rw[dm GK]at I0;have ajx:¬ (bQ P (0,false)).2=true:=by rw[I0];simp
  ((repeat'(first|refine Va (dm (show P.length<=j by omega)) ?_|(refine Xi ?_ ?_<;>try intro ht)|exact Xx|fail)))
  refine aq _ _ rfl ?_;clear ak aq Ql;repeat(refine Xu ?_)
  refine Vb X0 ?_;unfold eU;simp only[dI,dE];simp(disch:=omega)only[Ac,↓Pc,simprocAttr];rw[if_neg ajx];exact⟨_,ob,⟨rfl,eG⟩,eF rfl eG rfl⟩
def LG.mono{m:ah}{B C:Int}{g:Lg}(h:LG m B g)(hc:B<=C):LG m C g:=⟨h.s,h.t,h.sl,h.tl,λr hr=>(h.sb r hr).mono hc,λr hr=>(h.tb r hr).mono hc⟩
def Yl(m:ah)(left:List (List Bool))(l:List Mv)(hm:VM m)(hf:dh m left)(hl:l.length<9223372036854775808):Holds Tryz.prog 42 [.agg (an m),.tree 1 (rowsOf aC left),.tree 4 (rowsOf aU l)] [] (.bD [Qf (gH m left l).1,Qf (gH m left l).2]) []:=by
 generalize au:gH m left l=res;unfold gH at au;refine Holds.aM 33 0 [.tmp 6,.tmp 7] Tryz.func42 ?_;by_cases hlen:2000<l.length
 ·rw[if_pos hlen]at au;subst au;((repeat'(first|refine Vb X0 ?_|(refine Xi ?_ ?_<;>try intro ht)|exact Xx|fail)))
  all_goals exact aO rfl rfl
 rw[if_neg hlen]at au;repeat'(first|((fail_if_success (first|refine eM 3 ?_|refine eN 3 ?_));refine Xr X0 ?_;intro K hK)|(refine hK _ ?_;clear hK K)|(refine Xi ?_ ?_<;>try intro ht)|refine XY ?_|exact Xx|fail)
 refine oa 1 GS _ rfl ?_;intro K hK;simp(disch:=omega)only[Ac,↓Pc,simprocAttr,ja,eR];refine⟨rfl,(show j1 Tryz.prog 78 [.agg (an m)] (some 15) _ _ from ?_)⟩;refine rS (ajn hm [.var (an m)]) ?_;rintro r os⟨gi,ai,bi,D,E,rfl,iX,bf⟩;refine⟨bf.len,?_⟩;have f0:=bf 0 _ rfl;simp(disch:=omega)only[Ac,↓Pc,simprocAttr,eR];refine hK _ ?_;clear hK K;repeat(refine Xu ?_)
 refine Va X0 ?_;refine aR (λz:Nat×List Ob=>(⟨ao [(1,.tree 1 (rowsOf aC left)),(8,.ptr gi 0 0),(16,.tree 4 (rowsOf aU l)),(17,Qf l.length),(18,Qf z.1)],z.2⟩:St))
  (λz=>z.1<=l.length/\LO ba (GB m gi ai bi D E) D E (iV m (l.take z.1) (S0 m,T0 m)).1 (iV m (l.take z.1) (S0 m,T0 m)).2 z.2/\∀ x∈l.take z.1,iT m x=true)
  (λz=>l.length-z.1) (0,os) ⟨aS _,iX,GM⟩ (Xv X0) ?_
 clear iX bf f0;rintro⟨i,ob⟩⟨hi,iX,dY⟩Ql ak aq;dsimp only at hi iX dY ⊢;have lk:=(Ib hm (l.take i) dY);rw[eY,xS hi]at lk;by_cases ar:i<l.length
 ·have ez:iV m (l.take (i+1)) (S0 m,T0 m)=j5 m (l.getD i default) (iV m (l.take i) (S0 m,T0 m)):=by rw[eu ar,T']
  have gR:=eu ar;have bR:=aF (d:=default) ar;generalize iV m (l.take i) (S0 m,T0 m)=g at *;generalize bZ:l.getD i default=x at *;have hval:=ajy hm (iX.app [.var (aU x)]) lk x;have ao4:ob.length<(ob++[Ob.var (aU x)]).length:=GM;have hvx:(ob++[Ob.var (aU x)])[ob.length]?=some (.var (aU x)):=kl _ _ _;repeat'(first|((fail_if_success (first|refine eM 7 ?_|refine eN 7 ?_));refine Xr (X3 @bZ @aU.eq_1 @bH) ?_;intro K hK)|(refine hK _ ?_;clear hK K)|(refine Xi ?_ ?_<;>try intro ht)|refine Xy ?_|refine Xd ?_ ?_|exact Xx|fail)
  refine oa 2 GS _ rfl ?_;intro K hK;simp(disch:=omega)only[Ac,↓Pc,simprocAttr,ja,eR,bH];refine⟨rfl,(show j1 Tryz.prog 79 [.ptr gi 0 0,.agg (aU x)] (some 24) _ _ from ?_)⟩;refine rS hval ?_;rintro r yG⟨rfl,lx,rfl⟩;refine⟨GM,?_⟩;simp(disch:=omega)only[Ac,↓Pc,simprocAttr,eR];refine hK _ ?_;clear hK K;repeat(refine Xu ?_)
  by_cases hx:iT m x=true
  ·rw[hx];have rH:=ajA hm (iX.app (.var (aU x)::lx)) (B:=1099511627776+268435456*25*i) GK lk x hx;have evx:=aN hvx;repeat'(first|(refine Xi ?_ ?_<;>try intro ht)|refine Xy ?_|exact Xx|fail)
   refine oa 2 GS _ rfl ?_;intro K hK;simp(disch:=omega)only[Ac,↓Pc,simprocAttr,ja,eR,bH,aU,bE];refine⟨rfl,(show j1 Tryz.prog 80 [.ptr gi 0 0,.agg (aU x)] (some 28) _ _ from ?_)⟩;refine rS rH ?_;rintro r kT⟨rfl,mV,rq⟩;refine⟨rq,?_⟩;simp(disch:=omega)only[Ac,↓Pc,simprocAttr,eR];refine hK _ ?_;clear hK K;repeat(refine Xu ?_)
   refine Va X0 ?_;refine ak _ (i+1,kT) ⟨PW,by rw[ez];exact mV,λy hy=>by
    dsimp only at hy;rw[gR]at hy;rcases cG.1 hy with hy|hy
    ·exact dY y hy
    ·simp only[cV]at hy;subst hy;exact hx⟩ PW ?_
   exact Xv X0
  ·have b6:iT m x=false:=by simpa using hx
   rw[b6];rw[if_pos (by rw[List.all_eq_false];exact⟨x,bR,hx⟩)]at au;((repeat'(first|refine Va @kB ?_|(refine Xi ?_ ?_<;>try intro ht)|exact Xx|fail)))
   repeat(refine Xu ?_)
   refine Vb X0 ?_;exact aO rfl (by rw[<- au])
 ·rw[dm GK]at iX lk dY;rw[if_neg (by rw[Bool.not_eq_false];exact List.all_eq_true.2 dY)]at au;generalize iV m l (S0 m,T0 m)=g at *;obtain⟨g1,g2⟩:=g;dsimp only at iX;have hval:=ajr hm iX (lk.mono (by unfold mf;omega)) hf;((repeat'(first|refine Va X0 ?_|(refine Xi ?_ ?_<;>try intro ht)|exact Xx|fail)))
  refine aq _ _ rfl ?_;clear ak aq Ql;repeat(refine Xu ?_)
  refine Xy ?_;refine oa 2 GS _ rfl ?_;intro K hK;simp(disch:=omega)only[Ac,↓Pc,simprocAttr,ja,eR];refine⟨rfl,(show j1 Tryz.prog 81 [.ptr gi 0 0,.tree 1 (rowsOf aC left)] (some 32) _ _ from ?_)⟩;refine rS hval ?_;rintro r kT⟨rfl,rq⟩;refine⟨rq,?_⟩;simp(disch:=omega)only[Ac,↓Pc,simprocAttr,eR];refine hK _ ?_;clear hK K;repeat(refine Xu ?_)
  subst au;refine Vb X0 ?_;exact aO rfl rfl
def aaY(m:ah)(left:List (List Bool))(l:List Mv)(hm:MB m)(hb:BB left)(hl:l.length<9223372036854775808):Holds Tryz.prog 17 [.agg (an m),.tree 1 (rowsOf aC left),.tree 4 (rowsOf aU l)] [] (.bD [Qf (b8 m left l).1,Qf (b8 m left l).2]) []:=by
 have h1:=ajB m left hm hb;generalize au:b8 m left l=res;unfold b8 at au;refine Holds.aM 21 0 [.tmp 6,.tmp 7] Tryz.func17 ?_;by_cases hs:lg m left=0
 ·obtain⟨hv,hf⟩:=EB hs;rw[if_neg (by rw[hs];simp)]at au;rw[hs]at h1;have h2:=Yl m left l hv hf hl;generalize gH m left l=v at *;subst au;((try revert hK K);(repeat'(first|refine Vd @bne_self_eq_false.{0} (X2 h1 h2) ?_|(refine V2 @bne_self_eq_false.{0} ?_ ?_<;>try with_reducible intro hb)|(refine Xi ?_ ?_<;>try intro ht)|refine VD ?_ ?_|exact Xx|fail))<;>try with_reducible intro K hK)
  all_goals try(exfalso;omega)
  all_goals exact aO rfl rfl
 ·rw[if_pos hs]at au;generalize lg m left=e at *;subst au;((try revert hK K);(repeat'(first|refine Vd X0 h1 ?_|(refine V2 X0 ?_ ?_<;>try with_reducible intro hb)|(refine Xi ?_ ?_<;>try intro ht)|refine VD ?_ ?_|exact Xx|fail))<;>try with_reducible intro K hK)
  all_goals try(exfalso;omega)
  all_goals exact aO rfl rfl
def I1:IntKind.u64.min=0:=rfl
def I2:IntKind.u64.max=18446744073709551615:=rfl
def ajC:IntKind.u64.bits=64:=rfl
def p32:(2:Int)^(32:Nat)=4294967296:=rfl
def aaZ{n:Int}(h:0<=n/\n<=18446744073709551615):IntKind.u64.wrap n=n:=zs h
def ajE{n:Int}(h : -9223372036854775808<=n/\n<=9223372036854775807):IntKind.i64.wrap n=n:=zs h
def ajF{a:Int}(h:0<=a/\a<=18446744073709551615):CG .u64 a 4294967295=a%4294967296:=by
 unfold CG;have e:(BitVec.ofInt IntKind.u64.bits a &&& BitVec.ofInt IntKind.u64.bits 4294967295).toNat=a.toNat%4294967296:=by
  rw[BitVec.toNat_and,BitVec.toNat_ofInt,BitVec.toNat_ofInt];have h1:(a%((2^IntKind.u64.bits:Nat):Int)).toNat=a.toNat:=by rw[Int.emod_eq_of_lt h.1 (by show a<18446744073709551616;omega)]
  have h2:((4294967295:Int)%((2^IntKind.u64.bits:Nat):Int)).toNat=2^32-1:=GS;rw[h1,h2,Nat.and_two_pow_sub_one_eq_mod]
 rw[e];rw[zs (by simp only[I1,I2];omega)];omega
def unI:Tryz.prog.underlying 3=some (.int .i64):=by kernel_rfl
def unU:Tryz.prog.underlying 174=some (.int .u64):=by kernel_rfl
def ajI(y:Int)(hy:0<=y/\y<=9223372036854775807):Holds Tryz.prog 146 [.lit (.int .u64 1),.lit (.int .u64 y)] [] (.bD [.lit (.int .u64 0),.lit (.int .u64 y)]) []:=by
 refine Holds.aM 51 0 [.tmp 4,.tmp 5] Tryz.func146 ?_;refine Vb (X5 @I1 @I2 @ajC @p32 (X4 @ajF @aaZ @Int.one_mul @Int.zero_mul)) ?_;refine aO rfl ?_;congr 3;all_goals first|rfl|(congr 2;omega)
def ajJ(y:Int)(hy:0<=y/\y<=9223372036854775807):Holds Tryz.prog 118 [.lit (.int .u64 1),.lit (.int .u64 y)] [] (.bD [.lit (.int .u64 0),.lit (.int .u64 y)]) []:=by
 refine Holds.aM 30 0 [.tmp 4,.tmp 5] Tryz.func118 ?_;((repeat'(first|refine Vd (X2 @I1 @I2) (ajI y hy) ?_|(refine Xi ?_ ?_<;>try intro ht)|exact Xx|fail)))
 exact aO rfl rfl
def nE(b:Bool):List AV:=[.lit (.bool b)]
instance:Row nE 1:=⟨λ_=>rfl,λb v hv=>by
 simp only[nE,cV]at hv;subst hv;exact .inl ⟨_,rfl,rfl⟩⟩
def ajK(xs:List Bool):rowsOf nE xs=a8 xs:=by simp[rowsOf,nE,a8]
def th(n i:Nat)(s:Bool):List Bool:=aK i s++aK (n-i) false
def ajL{n i j:Nat}{s:Bool}(h:j<=i):(rowsOf nE (th n i s)).take j=rowsOf nE (aK j s):=by
 unfold th rowsOf;rw[<- GO,List.take_append_of_le_length P2,List.take_replicate,xS h]
def ajM{n i j:Nat}{s:Bool}(h:i+j<=n)(hj:j<=i):rowsOf nE (aK i s)++ja j (rowsOf nE (aK i s))++eR (i+j) (rowsOf nE (th n i s))=rowsOf nE (th n (i+j) s):=by
 unfold th rowsOf;rw[<- GO,<- List.map_drop,<- dS,<- dS,List.take_replicate,xS hj,List.drop_append,List.drop_eq_nil_of_le GM,List.drop_replicate,eC,List.replicate_append_replicate];congr 3;simp;omega
def ajN{n i:Nat}{s:Bool}(h:i<=n):(th n i s).length=n:=by simp[th];omega
def ajO(s:Bool)(n:Nat)(hn:n<=1048576):Holds Tryz.prog 84 [.tree 1 [nE s],Qf (n:Nat)] [] (.ref 0 1 0 n) [.arr 1 (rowsOf nE (aK n s))]:=by
 have hm:=ajJ n GK;refine Holds.aM 48 0 [.tmp 4] Tryz.func84 ?_;((repeat'(first|refine Vc (X5 @I1 @I2 @unI @unU (X4 @aaZ @ajE @Option.isSome_some.{0} @SF)) hm ?_|(refine Xi ?_ ?_<;>try intro ht)|exact Xx|fail)))
 have e0:ja (min 1 n) [nE s]++eR (min 1 n) (aK n [AV.lit (Value.bool false)])=rowsOf nE (th n (min 1 n) s):=by
  unfold th rowsOf;rw[List.drop_replicate];rcases Nat.eq_zero_or_pos n with h|h
  ·subst h;rfl
  ·rw[xS h,dS,Kq,Kq];rfl
 have e0':ja (min 1 n) [nE s]++eR (min 1 n) (a8 (aK n false))=rowsOf nE (th n (min 1 n) s):=by
  rw[<- e0];simp[a8]
 first|rw[e0]|rw[e0']
 refine aR (λi:Nat=>(⟨ao [(7,.ref 0 1 0 n),(8,Qf i)],[.arr 1 (rowsOf nE (th n i s))]⟩:St)) (λi=>i<=n/\(i=0->n=0)) (λi=>n-i) (min 1 n) ⟨GK,GK⟩ (Xv X0) ?_;rintro i⟨hi,hr⟩Ql ak aq;by_cases ar:i<n
 ·have e1:i+min i (n-i)<=n:=GK;have hl:=ajN (s:=s) hi;have BF:=λn s=>ajL (n:=n) (s:=s) (aY i);((repeat'(first|refine Va (X5 @Option.map_none.{0,0} @List.drop_zero.{0} @BF @cH (X3 @List.length_replicate.{0} @LS @hl)) ?_|(refine Xi ?_ ?_<;>try intro ht)|exact Xx|fail)))
  rw[ajM e1 (Nat.min_le_left _ _)];exact ak _ (i+min i (n-i)) ⟨GK,GK⟩ GK (Xv X0)
 ·obtain rfl:i=n:=GK;((repeat'(first|refine Va X0 ?_|(refine Xi ?_ ?_<;>try intro ht)|exact Xx|fail)))
  refine aq _ _ rfl ?_;clear ak aq Ql;repeat(refine Xu ?_)
  refine Vb X0 ?_;have e2:th i i s=aK i s:=by simp[th]
  rw[e2];exact Xw false [0] X0
def dW(m:ah):List (List Bool):=m.cls.map λl=>aK l.length true
def cI(m:ah):List (List Bool):=if iR m=0 then dW m else []
def ajQ(xs:List (List Bool))(b:List Bool):rowsOf aC xs++[[AV.tree 1 (a8 b)]]=rowsOf aC (xs++[b]):=by simp[rowsOf,aC]
def Nh(m:ah)(hm:MB m):Holds Tryz.prog 51 [.agg (an m)] [] (.tree 1 (rowsOf aC (cI m))) []:=by
 have h1:=Ng m hm;have uu:=hm.cls;generalize au:cI m=res;unfold cI at au;refine Holds.aM 25 0 [.tmp 2] Tryz.func51 ?_;by_cases hv:iR m=0;rotate_left
 ·rw[if_neg hv]at au;rw[<- au];generalize iR m=e at *;((repeat'(first|refine Vd X0 h1 ?_|(refine Xi ?_ ?_<;>try intro ht)|exact Xx|fail)))
  exact iD [] true GS trivial GS GS aZ.nil
 rw[if_pos hv]at au;rw[hv]at h1;have cP:=nu.1 hv;have oT:=cP.cls;((repeat'(first|refine Vd @bne_self_eq_false.{0} h1 ?_|(refine Xi ?_ ?_<;>try intro ht)|exact Xx|fail)))
 refine aR (λz:Nat×List (List Bool)=>(⟨ao [(1,.ptr 0 0 0),(3,.ref 1 1 0 z.2.length),(10,.tree 1 (rowsOf aW m.cls)),(11,Qf m.cls.length),(12,Qf z.1)],[.var (an m),.arr 1 (rowsOf aC z.2)]⟩:St))
  (λz=>z.1<=m.cls.length/\z.2=(dW m).take z.1) (λz=>m.cls.length-z.1) (0,[]) ⟨aS _,rfl⟩ ?_ ?_
 ·refine aH.trans (aH.nil 3 1 (by simp only[Kc,simprocAttr]) GS) ?_;exact Xv X0
 rintro⟨i,xs⟩⟨hi,dz⟩Ql ak aq;dsimp only at hi dz ⊢;have lI:(dW m).length=m.cls.length:=by simp[dW]
 by_cases ar:i<m.cls.length
 ·have vC:xs.length=i:=by rw[dz,eY];omega
  have ez:(dW m).take (i+1)=xs++[aK (m.cls.getD i default).length true]:=by
   rw[eu GK,<- dz];unfold dW;rw[iS _ _ _ ar]
  have sU:=cP.opt _ (aF (d:=default) ar);generalize bc:m.cls.getD i default=c at *;have NQ:=ajO true c.length GK;repeat'(first|((fail_if_success (first|refine eM 7 ?_|refine eN 7 ?_));refine Xr (X2 @bc @aW.eq_1) ?_;intro K hK)|(refine hK _ ?_;clear hK K)|(refine Xi ?_ ?_<;>try intro ht)|refine Xy ?_|refine Xd ?_ ?_|exact Xx|fail)
  refine Nx 5 GS ?_;intro K K1 hK z7;simp(disch:=omega)only[Ac,↓Pc,simprocAttr,ja];refine xW [] NQ GS trivial ⟨aZ.fz (rows:=rowsOf nE [true]) rfl rfl GM,.pure rfl,trivial⟩ rfl (by simp[D6,nE,rowsOf,flat]) ?_;simp(disch:=omega)only[Ac,↓Pc,simprocAttr];refine z7 _ ⟨ao [(1,.ptr 0 0 0),(3,.ref 1 1 0 xs.length),(10,.tree 1 (rowsOf aW m.cls)),(11,Qf m.cls.length),(12,Qf i),(16,.ref 1 1 0 xs.length),(20,.tree 1 (a8 (aK c.length true)))],[.var (an m),.arr 1 (rowsOf aC xs)]⟩ ?_ ?_
  ·rw[<- ajK];exact Xs true [0,1] X0
  clear z7 K1;simp(disch:=omega)only[Ac,↓Pc,simprocAttr,eR,ajQ];repeat'(first|with_reducible refine c6 ?_ ?_|omega)
  refine hK _ ?_;clear hK K;repeat(refine Xu ?_)
  refine Va X0 ?_;refine ak _ (i+1,xs++[aK c.length true]) ⟨PW,ez.symm⟩ PW ?_;exact Xs false [0,3] X0
 ·rw[dm GK]at dz;((repeat'(first|refine Va X0 ?_|(refine Xi ?_ ?_<;>try intro ht)|exact Xx|fail)))
  refine aq _ _ rfl ?_;clear ak aq Ql;repeat(refine Xu ?_)
  refine Vb X0 ?_;rw[dz,au];exact Xw true [] X0
end T

