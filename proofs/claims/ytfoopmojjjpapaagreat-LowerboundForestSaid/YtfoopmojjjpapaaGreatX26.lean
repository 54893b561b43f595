import Derived.Test.YtfoopmojjjpapaaGreatX23
import Derived.Test.YtfoopmojjjpapaaGreatX25
set_option linter.all false
set_option maxHeartbeats 0
set_option maxRecDepth 20000
open List renaming append_assoc→bw,length_append→bI,cons_append→e9,nil_append→iH,set_cons_succ→wG,set_cons_zero→rV,length_cons→cV,length_nil→nr,take_zero→mK,mem_cons→a8,not_mem_nil→iJ,length_map→eu,length_take→fZ,map_nil→mf,foldl_nil→yY,mem_map→b6,mem_of_mem_take→qY,take_of_length_le→c9,getElem?_eq_some_iff→aT,length_set→bH,getElem?_set_ne→fN,map_append→dJ,take→jO,drop→fH,mem_append→da,mem_singleton→dI,all_eq_true→e8,replicate→aI,map_take→Fu,map_replicate→O1,length_replicate→mL,mem_reverse→AY,flatMap_cons→xL,length→jB,getElem?_eq_getElem→bS,getD_eq_getElem?_getD→az
open Nat renaming zero_add→gq,zero_le→aS,le_refl→aU,min_eq_left→wF
open And renaming intro→c6
open Bool renaming not_false→lG
open Go Go.Am Go.Proofs
namespace T
def NA(xs:List Nm)(n:Int):rowsOf aX xs++[[AV.lit (.int .i64 n),.lit (.bool (decide (1099511627776<=n)))]]=rowsOf aX (xs++[ez n]):=by simp[rowsOf,aX,ez]
def alc{m:aj}(hm:VM m)(os:List Ob):dZ Tryz.prog 78 [.agg (ay m)] os λr ob=>∃ gi ai bi D E,r=.ptr gi 0 0/\LO aX (GB m gi ai bi D E) D E (S0 m) (T0 m) ob/\gM os ob:=by
 have qE:=hm.cls;have pD:=hm.ae;refine dZ.aQ 94 os.length [.tmp 2] Tryz.func78 ?_;refine Vb (X3 @bF @bw.{0} @bI.{0}) ?_;have kz1:(os++[Ob.var (ay m),Ob.var (ay m++[.lit (.slice none 0 0),.lit (.slice none 0 0)])])[os.length+1]?=some (.var (ay m++[.lit (.slice none 0 0),.lit (.slice none 0 0)])):=by rw[kC];rfl
 refine df (aH.zI (os.length+1) 4 1 kz1 rfl Fs) ?_;simp only[bw,e9,iH,DR,wG,rV,bI,cV,nr,ay,gq,Nat.reduceAdd];clear kz1;refine df (aH.zI (os.length+1) 5 1 (by rw[kC];rfl) rfl Fs) ?_;simp only[bw,e9,iH,DR,wG,rV,bI,cV,nr,gq,Nat.reduceAdd];have rM:LO aX [(os.length+1,.var (gC m (os.length+2) (os.length+3) [] [])),(os.length+2,.arr 1 (rowsOf cu [])),(os.length,.var (ay m)),(os.length+3,.arr 1 (rowsOf cu []))] [] [] ((S0 m).take 0) [] (os++[.var (ay m),.var (gC m (os.length+2) (os.length+3) [] []),.arr 1 [],.arr 1 []]):=by
  refine⟨λb hb=>?_,by rw[mK];exact RI.nil,RI.nil,Fl⟩;simp only[a8,iJ,or_false]at hb;rcases hb with rfl|rfl|rfl|rfl
  ·exact⟨by rw[kC];rfl,Fl⟩
  ·exact⟨by rw[kC];rfl,Fl⟩
  ·exact⟨by rw[jX],Fl⟩
  ·exact⟨by rw[kC];rfl,Fl⟩
 refine bd (λz:Nat×List Ob×Nat×List (Nat×Nat)=>(⟨ar [(1,.ptr os.length 0 0),(3,.ptr (os.length+1) 0 0),(21,.tree 1 (rowsOf bm m.cls)),(22,OJ m.cls.length),(23,OJ z.1)],z.2.1⟩:St))
  (λz=>z.1<=m.cls.length/\z.2.2.2.length=z.1/\LO aX [(os.length+1,.var (gC m z.2.2.1 (os.length+3) z.2.2.2 [])),(z.2.2.1,.arr 1 (rowsOf cu z.2.2.2)),(os.length,.var (ay m)),(os.length+3,.arr 1 (rowsOf cu []))] z.2.2.2 [] ((S0 m).take z.1) [] z.2.1/\gM os z.2.1/\os.length+1<z.2.2.1/\z.2.2.1≠os.length+3)
  (λz=>m.cls.length-z.1) (0,os++[.var (ay m),.var (gC m (os.length+2) (os.length+3) [] []),.arr 1 [],.arr 1 []],os.length+2,[]) ⟨aS _,rfl,rM,(gM.refl os).app _,Ji,Ji⟩ (Xv X0) ?_
 clear rM;rintro⟨i,ob,ai,D⟩⟨hi,hD,hL,aZ,zJ,NC⟩Ql ao ax;dsimp only at hi hD hL aZ zJ NC ⊢;by_cases aq:i<m.cls.length
 ·have jT:=aF (d:=default) aq;have vL:=hm.opt _ jT;have fP:(S0 m).take (i+1)=(S0 m).take i++[dm (b8 (m.cls.getD i default))]:=by
   rw[eQ (by unfold S0;rw[eu];exact aq)];unfold S0;rw[gn _ _ _ aq]
  have qF:=λo ho=>hm.rp _ jT o ho;have UJ:=λo ho=>abC hm jT (o:=o) ho;generalize bf:m.cls.getD i default=c at *;((repeat'(first|refine Va (X2 @bf @bm.eq_1) ?_|(refine Xi ?_ ?_<;>try intro ht)|exact Xx|fail)))
  have hvl:(dm (b8 c)).length=c.length:=by unfold dm b8;simp
  refine bd (λz:Nat×List Ob×Nat×List Nm=>(⟨ar [(1,.ptr os.length 0 0),(3,.ptr (os.length+1) 0 0),(21,.tree 1 (rowsOf bm m.cls)),(22,OJ m.cls.length),(23,OJ i),(6,.ref z.2.2.1 2 0 z.2.2.2.length),(27,.tree 6 (rowsOf cA c)),(28,OJ c.length),(29,OJ z.1)],z.2.1⟩:St))
   (λz=>z.1<=c.length/\LO aX [(os.length+1,.var (gC m ai (os.length+3) D [])),(ai,.arr 1 (rowsOf cu D)),(os.length,.var (ay m)),(os.length+3,.arr 1 (rowsOf cu []))] D [] ((S0 m).take i) [] z.2.1/\gM os z.2.1/\z.2.1[z.2.2.1]?=some (.arr 2 (rowsOf aX z.2.2.2))/\z.2.2.1 ∉ List.map (λq:Nat×Nat=>q.1) (D++[])/\os.length<=z.2.2.1/\z.2.2.2=(dm (b8 c)).take z.1)
   (λz=>c.length-z.1) (0,ob++[.arr 2 []],ob.length,[]) ⟨aS _,hL.app _,aZ.app _,jX _ _ _,hL.fresh (aU _),aZ.len,rfl⟩ ?_ ?_
  ·refine aH.trans (aH.nil 6 2 (by simp only[Kc,simprocAttr]) Fs) ?_;exact Xv X0
  clear hL aZ;rintro⟨k,ok,oi,xs⟩⟨hk,hL,aZ,k9,cX,oF,dN⟩du bE bG;dsimp only at hk hL aZ k9 cX oF dN ⊢;by_cases bc:k<c.length
  ·have Ay:=aF (l:=c) (d:=default) bc;have abN:=Hj (qF _ Ay);have aod:=UJ _ Ay;have Il:(dm (b8 c)).getD k default=ez (lz (c.getD k default)):=by
    unfold dm b8;rw[List.map_map,gn _ _ _ bc];rfl
   have Cq:=eQ (l:=dm (b8 c)) (k:=k) CZ;rw[Il,<- dN]at Cq;have sV:xs.length=k:=by rw[dN,fZ];omega
   generalize mz:c.getD k default=o at *;((repeat'(first|refine Va (X3 @mz @bF @cA.eq_1) ?_|(refine Xi ?_ ?_<;>try intro ht)|exact Xx|fail)))
   refine bd (λz:Nat×List Ob=>(⟨ar [(1,.ptr os.length 0 0),(3,.ptr (os.length+1) 0 0),(21,.tree 1 (rowsOf bm m.cls)),(22,OJ m.cls.length),(23,OJ i),(6,.ref oi 2 0 xs.length),(27,.tree 6 (rowsOf cA c)),(28,OJ c.length),(29,OJ k),(9,OJ (((o.ch.take z.1).map (·.2)).foldl dK 0)),(34,.tree 2 (rowsOf dt o.ch)),(35,OJ o.ch.length),(36,OJ z.1)],z.2⟩:St))
    (λz=>z.1<=o.ch.length/\LO aX [(os.length+1,.var (gC m ai (os.length+3) D [])),(ai,.arr 1 (rowsOf cu D)),(os.length,.var (ay m)),(os.length+3,.arr 1 (rowsOf cu []))] D [] ((S0 m).take i) [] z.2/\gM os z.2/\z.2[oi]?=some (.arr 2 (rowsOf aX xs)))
    (λz=>o.ch.length-z.1) (0,ok++[.var (cA o)]) ⟨aS _,hL.app _,aZ.app _,aM k9 _⟩ (Xv (X4 @mK.{0} @mf.{0,0} @yY.{0,0} @cA.eq_1)) ?_
   clear hL aZ k9;rintro⟨q,oq⟩⟨hq,hL,aZ,k9⟩qH kE iB;dsimp only at hq hL aZ k9 ⊢;have hs:=D1 ((o.ch.take q).map (·.2)) 0 (λx hx=>by
    obtain⟨c,fI,rfl⟩:=b6.1 hx;exact abN c (qY fI)) (by unfold bQ;decide)
   by_cases vA:q<o.ch.length
   ·have ale:=abN _ (aF (d:=default) vA);have dh:=VS o.ch q vA;generalize ((o.ch.take q).map (·.2)).foldl dK 0=s at *;have wq:=ai8 s (o.ch.getD q default).2 hs ale;generalize we:o.ch.getD q default=y at *;((repeat'(first|refine Vc (X3 @we @bF @dt.eq_1) wq ?_|(refine Xi ?_ ?_<;>try intro ht)|exact Xx|fail)))
    refine kE _ (q+1,oq++[.var (dt y)]) ⟨Ji,hL.app _,aZ.app _,aM k9 _⟩ Ji ?_;simp only[dh];exact Xv @dt.eq_1
   ·have kD:((o.ch.take q).map (·.2)).foldl dK 0=lz o:=by rw[c9 CZ];rfl
    rw[kD]at hs;rw[<- kD]at Cq;generalize ((o.ch.take q).map (·.2)).foldl dK 0=s at *;have ND:=Nb s;have eoi:=aM k9;have NF:=gZ k9;have nE:=(aT.1 k9).1;((repeat'(first|refine Va X0 ?_|(refine Xi ?_ ?_<;>try intro ht)|exact Xx|fail)))
    refine iB _ _ rfl ?_;clear kE iB qH;repeat(refine Xu ?_)
    refine Vc (X5 @k9 @eoi @NF @aX.eq_1 (X5 @ez.eq_1 @bF @bw.{0} @bI.{0} (X2 @bH.{0} @NA))) ND ?_;have lV:=(hL.HJ (y:=.gone) cX k9).app [.arr 2 [aX (ez s)],.arr 2 (rowsOf aX (xs++[ez s]))];refine bE _ (k+1,oq.set oi .gone++[.arr 2 [aX (ez s)],.arr 2 (rowsOf aX (xs++[ez s]))],oq.length+1,xs++[ez s]) ⟨Ji,lV,(aZ.set oF).app _,oH _ _ _ _ _,(hL.HJ (y:=.gone) cX k9).fresh (by dsimp only;rw[bH];omega),by dsimp only;have:=aZ.len;omega,Cq.symm⟩ Ji ?_;exact Xv (X2 @aX.eq_1 @ez.eq_1)
  ·rw[c9 CZ]at dN;have uj:=(hL.base (os.length+1,.var (gC m ai (os.length+3) D [])) Fl).1;have uO:=(hL.base (ai,.arr 1 (rowsOf cu D)) Fl).1;dsimp only at uj uO;have NG:=aM uj;have NH:=aM uO;have NI:=gZ uO;have vn:(ok.set ai .gone)[os.length+1]?=some (.var (gC m ai (os.length+3) D [])):=by rw[fN CZ];exact uj
   have pF:=aM vn;have NJ:=gZ vn;have dh:=hL.step k9 cX (by simp only[a8,iJ,or_false,forall_eq_or_imp,forall_eq];omega) [.tree 1 (rowsOf bm m.cls),.tree 4 (rowsOf aL m.ae),.tree 4 (rowsOf ej m.aK),OJ m.rules,.ref (ok.length+1) 1 0 (D.length+1),.ref (os.length+3) 1 0 0] (rowsOf cu (D++[(oi,xs.length)])) (.arr 1 [[.ref oi 2 0 xs.length]]);have NK:gC m (ok.length+1) (os.length+3) (D++[(oi,xs.length)]) []=[.tree 1 (rowsOf bm m.cls),.tree 4 (rowsOf aL m.ae),.tree 4 (rowsOf ej m.aK),OJ m.rules,.ref (ok.length+1) 1 0 (D.length+1),.ref (os.length+3) 1 0 0]:=by simp[gC]
   have hb3:=(aT.1 (hL.base (os.length+3,.arr 1 (rowsOf cu [])) Fl).1).1;have kO:=(aT.1 uO).1;dsimp only at hb3;((repeat'(first|refine Va X0 ?_|(refine Xi ?_ ?_<;>try intro ht)|exact Xx|fail)))
   refine bG _ _ rfl ?_;clear bE bG du;repeat(refine Xu ?_)
   refine Va (X5 @uj @uO @NG @NH (X5 @NI @pF @NJ @gC.eq_1 (X5 @HH @bF @bw.{0} @bI.{0} @bH.{0}))) ?_;refine ao _ (i+1,_,ok.length+1,D++[(oi,xs.length)]) ⟨Ji,Jo,by dsimp only;rw[fP,<- dN,NK];exact dh,((aZ.set CZ).set CZ).app _,Ji,Ji⟩ Ji ?_;exact Xv X0
 rw[c9 (by unfold S0;rw[eu];omega)]at hL;have BT:=(hL.base (os.length,.var (ay m)) Fl).1;dsimp only at BT;((repeat'(first|refine Va @BT ?_|(refine Xi ?_ ?_<;>try intro ht)|exact Xx|fail)))
 refine ax _ _ rfl ?_;clear ao ax Ql;repeat(refine Xu ?_)
 refine Va @BT ?_;have hL0:LO aX [(os.length+1,.var (gC m ai (os.length+3) D [])),(os.length+3,.arr 1 (rowsOf cu [])),(os.length,.var (ay m)),(ai,.arr 1 (rowsOf cu D))] [] D ((T0 m).take 0) (S0 m) ob:=hL.swap.sub (by simp only[a8,iJ,or_false];intro b hb;rcases hb with rfl|rfl|rfl|rfl<;>simp);refine bd (λz:Nat×List Ob×Nat×List (Nat×Nat)=>(⟨ar [(1,.ptr os.length 0 0),(3,.ptr (os.length+1) 0 0),(63,.tree 4 (rowsOf aL m.ae)),(64,OJ m.ae.length),(65,OJ z.1)],z.2.1⟩:St))
  (λz=>z.1<=m.ae.length/\z.2.2.2.length=z.1/\LO aX [(os.length+1,.var (gC m ai z.2.2.1 D z.2.2.2)),(z.2.2.1,.arr 1 (rowsOf cu z.2.2.2)),(os.length,.var (ay m)),(ai,.arr 1 (rowsOf cu D))] z.2.2.2 D ((T0 m).take z.1) (S0 m) z.2.1/\gM os z.2.1/\os.length+1<z.2.2.1/\ai≠z.2.2.1)
  (λz=>m.ae.length-z.1) (0,ob,os.length+3,[]) ⟨aS _,rfl,hL0,aZ,Ji,NC⟩ (Xv X0) ?_
 clear hL hL0 aZ BT hi aq NC ob;rintro⟨i,ob,bi,E⟩⟨hi,hE,hL,aZ,fh,eX⟩Ql ao ax;dsimp only at hi hE hL aZ fh eX ⊢;by_cases aq:i<m.ae.length
 ·have dj:=jV hm.pr _ (aF (d:=default) aq);have kF:=Cl dj hm;have kk:=GV dj;have fP:(T0 m).take (i+1)=(T0 m).take i++[dm (m.ae.getD i default).aC]:=by
   rw[eQ (by unfold T0;rw[eu];exact aq)];unfold T0;rw[gn _ _ _ aq]
  generalize cg:m.ae.getD i default=p at *;((repeat'(first|refine Va (X3 @cg @bF @aL.eq_1) ?_|(refine Xi ?_ ?_<;>try intro ht)|exact Xx|fail)))
  have hvl:(dm p.aC).length=p.aC.length:=by unfold dm;simp
  refine bd (λz:Nat×List Ob×Nat×List Nm=>(⟨ar [(1,.ptr os.length 0 0),(3,.ptr (os.length+1) 0 0),(63,.tree 4 (rowsOf aL m.ae)),(64,OJ m.ae.length),(65,OJ i),(14,.ref z.2.2.1 2 0 z.2.2.2.length),(70,.tree 1 (ints p.aC)),(71,OJ p.aC.length),(72,OJ z.1)],z.2.1⟩:St))
   (λz=>z.1<=p.aC.length/\LO aX [(os.length+1,.var (gC m ai bi D E)),(bi,.arr 1 (rowsOf cu E)),(os.length,.var (ay m)),(ai,.arr 1 (rowsOf cu D))] E D ((T0 m).take i) (S0 m) z.2.1/\gM os z.2.1/\z.2.1[z.2.2.1]?=some (.arr 2 (rowsOf aX z.2.2.2))/\z.2.2.1 ∉ List.map (λq:Nat×Nat=>q.1) (E++D)/\os.length<=z.2.2.1/\z.2.2.2=(dm p.aC).take z.1)
   (λz=>p.aC.length-z.1) (0,(ob++[.var (aL p)])++[.arr 2 []],(ob++[Ob.var (aL p)]).length,[]) ⟨aS _,(hL.app _).app _,(aZ.app _).app _,jX _ _ _,(hL.app [.var (aL p)]).fresh (aU _),by simp;have:=aZ.len;omega,rfl⟩ ?_ ?_
  ·refine aH.trans (aH.nil 14 2 (by simp only[Kc,simprocAttr]) Fs) ?_;exact Xv X0
  clear hL aZ;rintro⟨k,ok,oi,xs⟩⟨hk,hL,aZ,k9,cX,oF,dN⟩du bE bG;dsimp only at hk hL aZ k9 cX oF dN ⊢;by_cases bc:k<p.aC.length
  ·have Il:(dm p.aC).getD k default=ez (p.aC.getD k 0):=by
    unfold dm;rw[gn _ _ _ bc];rfl
   have Cq:=eQ (l:=dm p.aC) (k:=k) CZ;rw[Il,<- dN]at Cq;have sV:xs.length=k:=by rw[dN,fZ];omega
   have hs:=kk _ (aF (d:=0) bc);unfold bQ at hs;generalize we:p.aC.getD k 0=s at *;have ND:=Nb s;have eoi:=aM k9;have NF:=gZ k9;have nE:=(aT.1 k9).1;((repeat'(first|refine Vc (X5 @we @k9 @eoi @NF (X5 @aX.eq_1 @ez.eq_1 @bF @bw.{0} (X3 @bI.{0} @bH.{0} @NA))) ND ?_|(refine Xi ?_ ?_<;>try intro ht)|exact Xx|fail)))
   have lV:=(hL.HJ (y:=.gone) cX k9).app [.arr 2 [aX (ez s)],.arr 2 (rowsOf aX (xs++[ez s]))];refine bE _ (k+1,ok.set oi .gone++[.arr 2 [aX (ez s)],.arr 2 (rowsOf aX (xs++[ez s]))],ok.length+1,xs++[ez s]) ⟨Ji,lV,(aZ.set oF).app _,oH _ _ _ _ _,(hL.HJ (y:=.gone) cX k9).fresh (by dsimp only;rw[bH];omega),by dsimp only;have:=aZ.len;omega,Cq.symm⟩ Ji ?_;exact Xv (X2 @aX.eq_1 @ez.eq_1)
  ·rw[c9 CZ]at dN;have uj:=(hL.base (os.length+1,.var (gC m ai bi D E)) Fl).1;have uO:=(hL.base (bi,.arr 1 (rowsOf cu E)) Fl).1;have ha3:=(aT.1 (hL.base (ai,.arr 1 (rowsOf cu D)) Fl).1).1;dsimp only at uj uO ha3;have NG:=aM uj;have NH:=aM uO;have NI:=gZ uO;have vn:(ok.set bi .gone)[os.length+1]?=some (.var (gC m ai bi D E)):=by rw[fN CZ];exact uj
   have pF:=aM vn;have NJ:=gZ vn;have dh:=hL.step k9 cX (by simp only[a8,iJ,or_false,forall_eq_or_imp,forall_eq];omega) [.tree 1 (rowsOf bm m.cls),.tree 4 (rowsOf aL m.ae),.tree 4 (rowsOf ej m.aK),OJ m.rules,.ref ai 1 0 D.length,.ref (ok.length+1) 1 0 (E.length+1)] (rowsOf cu (E++[(oi,xs.length)])) (.arr 1 [[.ref oi 2 0 xs.length]]);have NK:gC m ai (ok.length+1) D (E++[(oi,xs.length)])=[.tree 1 (rowsOf bm m.cls),.tree 4 (rowsOf aL m.ae),.tree 4 (rowsOf ej m.aK),OJ m.rules,.ref ai 1 0 D.length,.ref (ok.length+1) 1 0 (E.length+1)]:=by simp[gC]
   have kO:=(aT.1 uO).1;((repeat'(first|refine Va X0 ?_|(refine Xi ?_ ?_<;>try intro ht)|exact Xx|fail)))
   refine bG _ _ rfl ?_;clear bE bG du;repeat(refine Xu ?_)
   refine Va (X5 @uj @uO @NG @NH (X5 @NI @pF @NJ @gC.eq_1 (X5 @HH @bF @bw.{0} @bI.{0} @bH.{0}))) ?_;refine ao _ (i+1,_,ok.length+1,E++[(oi,xs.length)]) ⟨Ji,Jo,by dsimp only;rw[fP,<- dN,NK];exact dh,((aZ.set CZ).set CZ).app _,Ji,Ji⟩ Ji ?_;exact Xv X0
 rw[c9 (by unfold T0;rw[eu];omega)]at hL;((repeat'(first|refine Va X0 ?_|(refine Xi ?_ ?_<;>try intro ht)|exact Xx|fail)))
 refine ax _ _ rfl ?_;clear ao ax Ql;repeat(refine Xu ?_)
 refine Vb X0 ?_;unfold lQ;simp only[gG,gv];simp(disch:=omega)only[Ac,↓Pc,simprocAttr];refine⟨.ptr (os.length+1) 0 0,ob,⟨os.length+1,ai,bi,D,E,rfl,hL.swap.sub ?_,aZ⟩,dX rfl aZ.len rfl⟩;simp only[a8,iJ,or_false];intro b hb;rcases hb with rfl|rfl|rfl<;>simp
def abP(xs:List Nm)(q:Nm):rowsOf aX xs++[[AV.lit (.int .i64 q.1),.lit (.bool q.2)]]=rowsOf aX (xs++[q]):=by simp[rowsOf,aX]
def alh{m:aj}(hm:VM m){gi ai bi:Nat}{D E:List (Nat×Nat)}{S T:List (List Nm)}{os:List Ob}(h:LO aX (GB m gi ai bi D E) D E S T os)(hg:LG m lA (S,T)){left:List (List Bool)}(hf:cP m left):
  dZ Tryz.prog 81 [.ptr gi 0 0,.tree 1 (rowsOf aE left)] os λr ob=>r=OJ (kU m left (S,T))/\os.length<=ob.length:=by
 obtain⟨fg,fa,fb⟩:=Ah h;have eg:=aM fg;have ea:=aM fa;have eb:=aM fb;have hD:=h.rD.len;have hE:=h.rE.len;have ka:S.length=m.cls.length:=hg.s;have ES:T.length=m.ae.length:=hg.t;have qE:=hm.cls;have pD:=hm.ae;have yz:=hm.aK;have iL:=hf.1;rw[ais];refine dZ.aQ 80 os.length [.tmp 4] Tryz.func81 ?_;refine Vb (X3 @fg @fa @gC.eq_1) ?_;have yR:D.length=m.cls.length:=CZ;refine bd (λz:Nat×List Ob×Nat×List Nm=>(⟨ar [(0,.ptr gi 0 0),(1,.tree 1 (rowsOf aE left)),(5,.ref z.2.2.1 2 0 z.2.2.2.length),(17,OJ m.cls.length),(18,OJ z.1)],z.2.1⟩:St))
  (λz=>z.1<=m.cls.length/\gM os z.2.1/\z.2.1[z.2.2.1]?=some (.arr 2 (rowsOf aX z.2.2.2))/\os.length<=z.2.2.1/\z.2.2.2=(PC left S z.1).map vT)
  (λz=>m.cls.length-z.1) (0,os++[.arr 2 []],os.length,[]) ⟨aS _,(gM.refl _).app _,jX _ _ _,aU _,rfl⟩ ?_ ?_
 ·refine aH.trans (aH.nil 5 2 (by simp only[Kc,simprocAttr]) Fs) ?_;exact Xv @yR
 rintro⟨i,ob,ti,ps⟩⟨hi,aZ,eL,kk,eW⟩Ql ao ax;dsimp only at hi aZ eL kk eW ⊢;have cM:ps.length=i:=by rw[eW,eu,B5]
 by_cases aq:i<m.cls.length
 ·have l8:=ali hm (h.dS aZ) hg hf i aq;have dh:(PC left S (i+1)).map vT=ps++[s9 (jJ (S.getD i default) (left.getD i default))]:=by
   rw[show PC left S (i+1)=PC left S i++[cK (S.getD i default) (left.getD i default) (0,false)] from yE _ i,dJ,<- eW,VZ];rfl
  have Ck:=abB (jJ (S.getD i default) (left.getD i default)) (by have:=Mp (S.getD i default) (left.getD i default);have:=hg.sl i aq;have:=hm.opt _ (aF (d:=default) aq);dsimp only at *;omega);generalize jJ (S.getD i default) (left.getD i default)=NL at *;generalize s9 NL=q at *;repeat'(first|((fail_if_success (first|refine eH 5 ?_|refine eI 5 ?_));refine Xr X0 ?_;intro K hK)|(refine hK _ ?_;clear hK K)|(refine Xi ?_ ?_<;>try intro ht)|refine Xy ?_|exact Xx|fail)
  refine px 4 Fs _ rfl ?_;intro K hK;simp(disch:=omega)only[Ac,↓Pc,simprocAttr,jO,fH];refine⟨rfl,(show lr Tryz.prog 115 [.ptr gi 0 0,OJ i,.tree 1 (rowsOf aE left)] (some 25) _ _ from ?_)⟩;refine qz l8 ?_;rintro r w5⟨fK,id,rfl,bV⟩;refine⟨fK.len,?_⟩;have AB:=fK _ _ eL;have NM:=aM AB;have NN:=gZ AB;have dY:=(aZ.trans fK).len;simp(disch:=omega)only[Ac,↓Pc,simprocAttr,fH];refine vh [] Ck Fl trivial ⟨cC.fz bV (by rw[cU]) Fl,trivial⟩ rfl Fl ?_;simp(disch:=omega)only[Ac,↓Pc,simprocAttr,AB,NM,NN,aX,abP,bF,bw,bI,bH];repeat'(first|with_reducible refine c6 ?_ ?_|omega)
  refine hK _ ?_;clear hK K;repeat(refine Xu ?_)
  refine Va X0 ?_;refine ao _ (i+1,w5.set ti .gone++[.arr 2 [aX q],.arr 2 (rowsOf aX (ps++[q]))],w5.length+1,ps++[q]) ⟨Ji,((aZ.trans fK).set kk).app _,oH _ _ _ _ _,Ji,dh.symm⟩ Ji ?_;exact Xv @aX.eq_1
 have Ih:i=m.cls.length:=CZ;rw[Ih]at eW;have kg:=aZ _ _ fg;have kb:=aZ _ _ fb;have alj:E.length=m.ae.length:=CZ;((repeat'(first|refine Va X0 ?_|(refine Xi ?_ ?_<;>try intro ht)|exact Xx|fail)))
 refine ax _ _ rfl ?_;clear ao ax Ql;repeat(refine Xu ?_)
 refine Va (X3 @kg @kb @gC.eq_1) ?_;refine bd (λz:Nat×List Ob×Nat×List Nm=>(⟨ar [(0,.ptr gi 0 0),(1,.tree 1 (rowsOf aE left)),(5,.ref z.2.2.1 2 0 z.2.2.2.length),(34,OJ m.ae.length),(35,OJ z.1)],z.2.1⟩:St))
  (λz=>z.1<=m.ae.length/\gM os z.2.1/\z.2.1[z.2.2.1]?=some (.arr 2 (rowsOf aX z.2.2.2))/\os.length<=z.2.2.1/\z.2.2.2=(PC left S m.cls.length++PP m left T z.1).map vT)
  (λz=>m.ae.length-z.1) (0,ob,ti,ps) ⟨aS _,aZ,eL,kk,by rw[eW];simp[PP]⟩ (Xv @alj) ?_
 clear aZ eL kk eW cM Ih kg kb hi aq ti ps;rintro⟨i,ob,ti,ps⟩⟨hi,aZ,eL,kk,eW⟩Ql ao ax;dsimp only at hi aZ eL kk eW ⊢;have cM:ps.length=m.cls.length+i:=by rw[eW,eu,bI,B5,Ej]
 by_cases aq:i<m.ae.length
 ·have l8:=alk hm (h.dS aZ) hg hf i aq;have dh:(PC left S m.cls.length++PP m left T (i+1)).map vT=ps++[s9 (jJ (T.getD i default) (ig m left i))]:=by
   rw[show PP m left T (i+1)=PP m left T i++[cK (T.getD i default) (ig m left i) (0,false)] from yE _ i,<- bw,dJ,<- eW,VZ];rfl
  have Ck:=abB (jJ (T.getD i default) (ig m left i)) (by have:=Mp (T.getD i default) (ig m left i);have:=hg.tl i aq;have:=Cl (jV hm.pr _ (aF (d:=default) aq)) hm;dsimp only at *;omega);generalize jJ (T.getD i default) (ig m left i)=NL at *;generalize s9 NL=q at *;repeat'(first|((fail_if_success (first|refine eH 10 ?_|refine eI 10 ?_));refine Xr X0 ?_;intro K hK)|(refine hK _ ?_;clear hK K)|(refine Xi ?_ ?_<;>try intro ht)|refine Xy ?_|exact Xx|fail)
  refine px 4 Fs _ rfl ?_;intro K hK;simp(disch:=omega)only[Ac,↓Pc,simprocAttr,jO,fH];refine⟨rfl,(show lr Tryz.prog 116 [.ptr gi 0 0,OJ i,.tree 1 (rowsOf aE left)] (some 42) _ _ from ?_)⟩;refine qz l8 ?_;rintro r w5⟨fK,id,rfl,bV⟩;refine⟨fK.len,?_⟩;have AB:=fK _ _ eL;have NM:=aM AB;have NN:=gZ AB;have dY:=(aZ.trans fK).len;simp(disch:=omega)only[Ac,↓Pc,simprocAttr,fH];refine vh [] Ck Fl trivial ⟨cC.fz bV (by rw[cU]) Fl,trivial⟩ rfl Fl ?_;simp(disch:=omega)only[Ac,↓Pc,simprocAttr,AB,NM,NN,aX,abP,bF,bw,bI,bH];repeat'(first|with_reducible refine c6 ?_ ?_|omega)
  refine hK _ ?_;clear hK K;repeat(refine Xu ?_)
  refine Va X0 ?_;refine ao _ (i+1,w5.set ti .gone++[.arr 2 [aX q],.arr 2 (rowsOf aX (ps++[q]))],w5.length+1,ps++[q]) ⟨Ji,((aZ.trans fK).set kk).app _,oH _ _ _ _ _,Ji,dh.symm⟩ Ji ?_;exact Xv @aX.eq_1
 have Ik:i=m.ae.length:=CZ;rw[Ik]at eW;have kg:=aZ _ _ fg;((repeat'(first|refine Va X0 ?_|(refine Xi ?_ ?_<;>try intro ht)|exact Xx|fail)))
 refine ax _ _ rfl ?_;clear ao ax Ql;repeat(refine Xu ?_)
 refine Va (X2 @kg @gC.eq_1) ?_;refine bd (λz:Nat×List Ob×Nat×List Nm=>(⟨ar [(1,.tree 1 (rowsOf aE left)),(5,.ref z.2.2.1 2 0 z.2.2.2.length),(51,.tree 4 (rowsOf ej m.aK)),(52,OJ m.aK.length),(53,OJ z.1)],z.2.1⟩:St))
  (λz=>z.1<=m.aK.length/\gM os z.2.1/\z.2.1[z.2.2.1]?=some (.arr 2 (rowsOf aX z.2.2.2))/\os.length<=z.2.2.1/\z.2.2.2=(PC left S m.cls.length++PP m left T m.ae.length++PK m left z.1).map vT)
  (λz=>m.aK.length-z.1) (0,ob,ti,ps) ⟨aS _,aZ,eL,kk,by rw[eW];simp[PK]⟩ (Xv X0) ?_
 clear aZ eL kk eW cM Ik kg hi aq ti ps;rintro⟨i,ob,ti,ps⟩⟨hi,aZ,eL,kk,eW⟩Ql ao ax;dsimp only at hi aZ eL kk eW ⊢;have cM:ps.length=m.cls.length+m.ae.length+i:=by rw[eW,eu,bI,bI,B5,Ej,HL]
 by_cases aq:i<m.aK.length
 ·have jT:=aF (d:=default) aq;obtain⟨q1,q2,q3,q4⟩:=Na hm hf jT;have h1:=ai0 (m.aK.getD i default) left left.length (aU _) q1 CZ (λr hr=>by have:=hf.row hm r hr;omega) CZ q2 q3;have h2:=Nb (iW left (m.aK.getD i default));have dh:(PC left S m.cls.length++PP m left T m.ae.length++PK m left (i+1)).map vT=ps++[ez (iW left (m.aK.getD i default))]:=by
   rw[show PK m left (i+1)=PK m left i++[(iW left (m.aK.getD i default),!(decide ((m.aK.getD i default).cI=1099511627776)&&decide (0<iW left (m.aK.getD i default))))] from yE _ i,<- bw,dJ,<- eW];congr 1;simp only[List.map_cons,mf,vT,ez,Bool.not_not];rw[ait hm iL jT (λx hx=>(q1 x hx).2)]
  have rL:=aM eL;have ET:=gZ eL;have kF:=(aT.1 eL).1;have dY:=aZ.len;generalize iW left (m.aK.getD i default)=v at *;generalize bf:m.aK.getD i default=c at *;((repeat'(first|refine Vc (X5 @eL @rL @ET @bf (X5 @ej.eq_1 @aX.eq_1 @ez.eq_1 @NA (X4 @bF @bw.{0} @bI.{0} @bH.{0}))) (X2 h1 h2) ?_|(refine Xi ?_ ?_<;>try intro ht)|exact Xx|fail)))
  refine ao _ (i+1,ob.set ti .gone++[.var (ej c),.arr 2 [aX (ez v)],.arr 2 (rowsOf aX (ps++[ez v]))],ob.length+2,ps++[ez v]) ⟨Ji,(aZ.set kk).app _,oH _ _ _ _ _,Ji,dh.symm⟩ Ji ?_;exact Xv (X3 @aX.eq_1 @ez.eq_1 @ej.eq_1)
 have Nv:i=m.aK.length:=CZ;rw[Nv]at eW cM;rw[show PC left S m.cls.length++PP m left T m.ae.length++PK m left m.aK.length=xn m left (S,T) from rfl]at eW;have Im:(xn m left (S,T)).length=m.cls.length+m.ae.length+m.aK.length:=by unfold xn;rw[bI,bI,B5,Ej,HL]
 have hPr:∀ p∈xn m left (S,T),-lA<=p.1/\p.1<=lA:=λp hp=>by
  unfold xn at hp;rw[da,da]at hp;rcases hp with(hp|hp)|hp
  ·exact Mm (by unfold lA;decide) hg.sb _ p hp
  ·exact Mn (by unfold lA;decide) hg.tb _ p hp
  ·have:=Mo hm _ p hp;unfold lA;omega
 generalize xn m left (S,T)=P at *;((repeat'(first|refine Va X0 ?_|(refine Xi ?_ ?_<;>try intro ht)|exact Xx|fail)))
 refine ax _ _ rfl ?_;clear ao ax Ql;repeat(refine Xu ?_)
 refine Va @eL ?_;refine bd (λz:Nat×List Ob=>(⟨ar [(10,OJ (bL (P.take z.1) (0,false)).1),(65,.ref ti 2 0 ps.length),(66,OJ ps.length),(67,OJ z.1)],z.2⟩:St))
  (λz=>z.1<=P.length/\gM os z.2/\z.2[ti]?=some (.arr 2 (rowsOf aX ps))/\(bL (P.take z.1) (0,false)).2=false)
  (λz=>P.length-z.1) (0,ob) ⟨aS _,aZ,eL,rfl⟩ (Xv (X3 @mK.{0} @bL.eq_1 @yY.{0,0})) ?_
 clear aZ eL;rintro⟨j,ob⟩⟨hj,aZ,eL,Io⟩Ql ao ax;dsimp only at hj aZ eL Io ⊢;have dY:=aZ.len;have aoe:ps.length=P.length:=by rw[eW,eu]
 by_cases gx:j<P.length
 ·have hZ:=eQ gx;have eN:=B4 (P.take j) (P.getD j default) (0,false);rw[<- hZ,Io,Bool.false_or]at eN;have zA:ps.getD j default=vT (P.getD j default):=by rw[eW,gn _ _ _ gx]
  have iU:=yF (P.take j) (0,false) (λp hp=>hPr p (qY hp));rw[fZ,wF hj]at iU;have hrq:=hPr _ (aF (d:=default) gx);have alm:=aF (l:=P) (d:=default) gx;unfold lA at iU hrq;dsimp only at iU;generalize (bL (P.take j) (0,false)).1=s at *;generalize P.getD j default=q at *;obtain⟨v,b⟩:=q;unfold vT at zA;dsimp only at zA eN hrq;have rL:=aM eL;cases b
  ·have xF:(bL P (0,false)).2=true:=(V3 P 0).2 ⟨_,alm,rfl⟩;((repeat'(first|refine Va (X5 @eL @rL @zA @aX.eq_1 (X2 @bF @lG)) ?_|(refine Xi ?_ ?_<;>try intro ht)|exact Xx|fail)))
   repeat(refine Xu ?_)
   ((skip))
   unfold lQ;simp only[gG,gv];simp(disch:=omega)only[Ac,↓Pc,simprocAttr];rw[if_pos xF];exact⟨_,_,⟨rfl,by rw[bI];omega⟩,dX rfl (by rw[bI];omega) rfl⟩
  ·((repeat'(first|refine Va (X5 @eL @rL @zA @aX.eq_1 (X2 @bF @Bool.not_true)) ?_|(refine Xi ?_ ?_<;>try intro ht)|exact Xx|fail)))
   refine ao _ (j+1,_) ⟨Ji,aZ.app [.var (aX (v,false))],rL _,by rw[eN];rfl⟩ Ji ?_;simp only[eN];exact Xv @aX.eq_1
 ·rw[c9 CZ]at Io;have aln:¬ (bL P (0,false)).2=true:=by rw[Io];simp
  ((repeat'(first|refine Va (c9 (show P.length<=j by omega)) ?_|(refine Xi ?_ ?_<;>try intro ht)|exact Xx|fail)))
  refine ax _ _ rfl ?_;clear ao ax Ql;repeat(refine Xu ?_)
  refine Vb X0 ?_;unfold lQ;simp only[gG,gv];simp(disch:=omega)only[Ac,↓Pc,simprocAttr];rw[if_neg aln];exact⟨_,ob,⟨rfl,dY⟩,dX rfl dY rfl⟩
def LG.mono{m:aj}{B C:Int}{g:Lg}(h:LG m B g)(hc:B<=C):LG m C g:=⟨h.s,h.t,h.sl,h.tl,λr hr=>(h.sb r hr).mono hc,λr hr=>(h.tb r hr).mono hc⟩
def abS(m:aj)(left:List (List Bool))(l:List Mv)(hm:VM m)(hf:cP m left)(hl:l.length<9223372036854775808):Holds Tryz.prog 42 [.agg (ay m),.tree 1 (rowsOf aE left),.tree 4 (rowsOf aP l)] [] (.bx [OJ (gH m left l).1,OJ (gH m left l).2]) []:=by
 generalize au:gH m left l=res;unfold gH at au;refine Holds.aQ 33 0 [.tmp 6,.tmp 7] Tryz.func42 ?_;by_cases hlen:2000<l.length
 ·rw[if_pos hlen]at au;subst au;((repeat'(first|refine Vb X0 ?_|(refine Xi ?_ ?_<;>try intro ht)|exact Xx|fail)))
  all_goals exact aW rfl rfl
 rw[if_neg hlen]at au;repeat'(first|((fail_if_success (first|refine eH 3 ?_|refine eI 3 ?_));refine Xr X0 ?_;intro K hK)|(refine hK _ ?_;clear hK K)|(refine Xi ?_ ?_<;>try intro ht)|refine XY ?_|exact Xx|fail)
 refine px 1 Fs _ rfl ?_;intro K hK;simp(disch:=omega)only[Ac,↓Pc,simprocAttr,jO,fH];refine⟨rfl,(show lr Tryz.prog 78 [.agg (ay m)] (some 15) _ _ from ?_)⟩;refine qz (alc hm [.var (ay m)]) ?_;rintro r os⟨gi,ai,bi,D,E,rfl,iP,aZ⟩;refine⟨aZ.len,?_⟩;have f0:=aZ 0 _ rfl;simp(disch:=omega)only[Ac,↓Pc,simprocAttr,fH];refine hK _ ?_;clear hK K;repeat(refine Xu ?_)
 refine Va X0 ?_;refine bd (λz:Nat×List Ob=>(⟨ar [(1,.tree 1 (rowsOf aE left)),(8,.ptr gi 0 0),(16,.tree 4 (rowsOf aP l)),(17,OJ l.length),(18,OJ z.1)],z.2⟩:St))
  (λz=>z.1<=l.length/\LO aX (GB m gi ai bi D E) D E (fq m (l.take z.1) (S0 m,T0 m)).1 (fq m (l.take z.1) (S0 m,T0 m)).2 z.2/\∀ x∈l.take z.1,gK m x=true)
  (λz=>l.length-z.1) (0,os) ⟨aS _,iP,Fl⟩ (Xv X0) ?_
 clear iP aZ f0;rintro⟨i,ob⟩⟨hi,iP,fk⟩Ql ao ax;dsimp only at hi iP fk ⊢;have jM:=(Eh hm (l.take i) fk);rw[fZ,wF hi]at jM;by_cases aq:i<l.length
 ·have fP:fq m (l.take (i+1)) (S0 m,T0 m)=iY m (l.getD i default) (fq m (l.take i) (S0 m,T0 m)):=by rw[eQ aq,VV]
  have hZ:=eQ aq;have cD:=aF (d:=default) aq;generalize fq m (l.take i) (S0 m,T0 m)=g at *;generalize cE:l.getD i default=x at *;have hval:=alo hm (iP.app [.var (aP x)]) jM x;have aof:ob.length<(ob++[Ob.var (aP x)]).length:=Fl;have hvx:(ob++[Ob.var (aP x)])[ob.length]?=some (.var (aP x)):=jX _ _ _;repeat'(first|((fail_if_success (first|refine eH 7 ?_|refine eI 7 ?_));refine Xr (X3 @cE @aP.eq_1 @bF) ?_;intro K hK)|(refine hK _ ?_;clear hK K)|(refine Xi ?_ ?_<;>try intro ht)|refine Xy ?_|refine Xd ?_ ?_|exact Xx|fail)
  refine px 2 Fs _ rfl ?_;intro K hK;simp(disch:=omega)only[Ac,↓Pc,simprocAttr,jO,fH,bF];refine⟨rfl,(show lr Tryz.prog 79 [.ptr gi 0 0,.agg (aP x)] (some 24) _ _ from ?_)⟩;refine qz hval ?_;rintro r w5⟨rfl,lx,rfl⟩;refine⟨Fl,?_⟩;simp(disch:=omega)only[Ac,↓Pc,simprocAttr,fH];refine hK _ ?_;clear hK K;repeat(refine Xu ?_)
  by_cases hx:gK m x=true
  ·rw[hx];have qK:=alq hm (iP.app (.var (aP x)::lx)) (B:=1099511627776+268435456*25*i) CZ jM x hx;have evx:=aM hvx;repeat'(first|(refine Xi ?_ ?_<;>try intro ht)|refine Xy ?_|exact Xx|fail)
   refine px 2 Fs _ rfl ?_;intro K hK;simp(disch:=omega)only[Ac,↓Pc,simprocAttr,jO,fH,bF,aP,bw];refine⟨rfl,(show lr Tryz.prog 80 [.ptr gi 0 0,.agg (aP x)] (some 28) _ _ from ?_)⟩;refine qz qK ?_;rintro r jU⟨rfl,lW,lq⟩;refine⟨lq,?_⟩;simp(disch:=omega)only[Ac,↓Pc,simprocAttr,fH];refine hK _ ?_;clear hK K;repeat(refine Xu ?_)
   refine Va X0 ?_;refine ao _ (i+1,jU) ⟨Ji,by rw[fP];exact lW,λy hy=>by
    dsimp only at hy;rw[hZ]at hy;rcases da.1 hy with hy|hy
    ·exact fk y hy
    ·simp only[dI]at hy;subst hy;exact hx⟩ Ji ?_
   exact Xv X0
  ·have bZ:gK m x=false:=by simpa using hx
   rw[bZ];rw[if_pos (by rw[List.all_eq_false];exact⟨x,cD,hx⟩)]at au;((repeat'(first|refine Va @lG ?_|(refine Xi ?_ ?_<;>try intro ht)|exact Xx|fail)))
   repeat(refine Xu ?_)
   refine Vb X0 ?_;exact aW rfl (by rw[<- au])
 ·rw[c9 CZ]at iP jM fk;rw[if_neg (by rw[Bool.not_eq_false];exact e8.2 fk)]at au;generalize fq m l (S0 m,T0 m)=g at *;obtain⟨g1,g2⟩:=g;dsimp only at iP;have hval:=alh hm iP (jM.mono (by unfold lA;omega)) hf;((repeat'(first|refine Va X0 ?_|(refine Xi ?_ ?_<;>try intro ht)|exact Xx|fail)))
  refine ax _ _ rfl ?_;clear ao ax Ql;repeat(refine Xu ?_)
  refine Xy ?_;refine px 2 Fs _ rfl ?_;intro K hK;simp(disch:=omega)only[Ac,↓Pc,simprocAttr,jO,fH];refine⟨rfl,(show lr Tryz.prog 81 [.ptr gi 0 0,.tree 1 (rowsOf aE left)] (some 32) _ _ from ?_)⟩;refine qz hval ?_;rintro r jU⟨rfl,lq⟩;refine⟨lq,?_⟩;simp(disch:=omega)only[Ac,↓Pc,simprocAttr,fH];refine hK _ ?_;clear hK K;repeat(refine Xu ?_)
  subst au;refine Vb X0 ?_;exact aW rfl rfl
def Lb(m:aj)(left:List (List Bool))(l:List Mv)(hm:MB m)(hb:BB left)(hl:l.length<9223372036854775808):Holds Tryz.prog 17 [.agg (ay m),.tree 1 (rowsOf aE left),.tree 4 (rowsOf aP l)] [] (.bx [OJ (bP m left l).1,OJ (bP m left l).2]) []:=by
 have h1:=akF m left hm hb;generalize au:bP m left l=res;unfold bP at au;refine Holds.aQ 21 0 [.tmp 6,.tmp 7] Tryz.func17 ?_;by_cases hs:kR m left=0
 ·obtain⟨hv,hf⟩:=GN hs;rw[if_neg (by rw[hs];simp)]at au;rw[hs]at h1;have h2:=abS m left l hv hf hl;generalize gH m left l=v at *;subst au;((try revert hK K);(repeat'(first|refine Vd @bne_self_eq_false.{0} (X2 h1 h2) ?_|(refine V2 @bne_self_eq_false.{0} ?_ ?_<;>try with_reducible intro hb)|(refine Xi ?_ ?_<;>try intro ht)|refine VD ?_ ?_|exact Xx|fail))<;>try with_reducible intro K hK)
  all_goals try(exfalso;omega)
  all_goals exact aW rfl rfl
 ·rw[if_pos hs]at au;generalize kR m left=e at *;subst au;((try revert hK K);(repeat'(first|refine Vd X0 h1 ?_|(refine V2 X0 ?_ ?_<;>try with_reducible intro hb)|(refine Xi ?_ ?_<;>try intro ht)|refine VD ?_ ?_|exact Xx|fail))<;>try with_reducible intro K hK)
  all_goals try(exfalso;omega)
  all_goals exact aW rfl rfl
def Ip:IntKind.u64.min=0:=rfl
def Iq:IntKind.u64.max=18446744073709551615:=rfl
def alr:IntKind.u64.bits=64:=rfl
def p32:(2:Int)^(32:Nat)=4294967296:=rfl
def abT{n:Int}(h:0<=n/\n<=18446744073709551615):IntKind.u64.wrap n=n:=wQ h
def alu{n:Int}(h : -9223372036854775808<=n/\n<=9223372036854775807):IntKind.i64.wrap n=n:=wQ h
def alv{a:Int}(h:0<=a/\a<=18446744073709551615):Bo .u64 a 4294967295=a%4294967296:=by
 unfold Bo;have e:(BitVec.ofInt IntKind.u64.bits a &&& BitVec.ofInt IntKind.u64.bits 4294967295).toNat=a.toNat%4294967296:=by
  rw[BitVec.toNat_and,BitVec.toNat_ofInt,BitVec.toNat_ofInt];have h1:(a%((2^IntKind.u64.bits:Nat):Int)).toNat=a.toNat:=by rw[Int.emod_eq_of_lt h.1 (by show a<18446744073709551616;omega)]
  have h2:((4294967295:Int)%((2^IntKind.u64.bits:Nat):Int)).toNat=2^32-1:=Fs;rw[h1,h2,Nat.and_two_pow_sub_one_eq_mod]
 rw[e];rw[wQ (by simp only[Ip,Iq];omega)];omega
def unI:Tryz.prog.underlying 3=some (.int .i64):=by kernel_rfl
def unU:Tryz.prog.underlying 174=some (.int .u64):=by kernel_rfl
def aly(y:Int)(hy:0<=y/\y<=9223372036854775807):Holds Tryz.prog 146 [.lit (.int .u64 1),.lit (.int .u64 y)] [] (.bx [.lit (.int .u64 0),.lit (.int .u64 y)]) []:=by
 refine Holds.aQ 51 0 [.tmp 4,.tmp 5] Tryz.func146 ?_;refine Vb (X5 @Ip @Iq @alr @p32 (X4 @alv @abT @Int.one_mul @Int.zero_mul)) ?_;refine aW rfl ?_;congr 3;all_goals first|rfl|(congr 2;omega)
def alz(y:Int)(hy:0<=y/\y<=9223372036854775807):Holds Tryz.prog 118 [.lit (.int .u64 1),.lit (.int .u64 y)] [] (.bx [.lit (.int .u64 0),.lit (.int .u64 y)]) []:=by
 refine Holds.aQ 30 0 [.tmp 4,.tmp 5] Tryz.func118 ?_;((repeat'(first|refine Vd (X2 @Ip @Iq) (aly y hy) ?_|(refine Xi ?_ ?_<;>try intro ht)|exact Xx|fail)))
 exact aW rfl rfl
def mG(b:Bool):List AV:=[.lit (.bool b)]
instance:Row mG 1:=⟨λ_=>rfl,λb v hv=>by
 simp only[mG,dI]at hv;subst hv;exact .inl ⟨_,rfl,rfl⟩⟩
def alA(xs:List Bool):rowsOf mG xs=br xs:=by simp[rowsOf,mG,br]
def rN(n i:Nat)(s:Bool):List Bool:=aI i s++aI (n-i) false
def alB{n i j:Nat}{s:Bool}(h:j<=i):(rowsOf mG (rN n i s)).take j=rowsOf mG (aI j s):=by
 unfold rN rowsOf;rw[<- Fu,List.take_append_of_le_length Jo,List.take_replicate,wF h]
def alC{n i j:Nat}{s:Bool}(h:i+j<=n)(hj:j<=i):rowsOf mG (aI i s)++jO j (rowsOf mG (aI i s))++fH (i+j) (rowsOf mG (rN n i s))=rowsOf mG (rN n (i+j) s):=by
 unfold rN rowsOf;rw[<- Fu,<- List.map_drop,<- dJ,<- dJ,List.take_replicate,wF hj,List.drop_append,List.drop_eq_nil_of_le Fl,List.drop_replicate,iH,List.replicate_append_replicate];congr 3;simp;omega
def alD{n i:Nat}{s:Bool}(h:i<=n):(rN n i s).length=n:=by simp[rN];omega
def alE(s:Bool)(n:Nat)(hn:n<=1048576):Holds Tryz.prog 84 [.tree 1 [mG s],OJ (n:Nat)] [] (.ref 0 1 0 n) [.arr 1 (rowsOf mG (aI n s))]:=by
 have hm:=alz n CZ;refine Holds.aQ 48 0 [.tmp 4] Tryz.func84 ?_;((repeat'(first|refine Vc (X5 @Ip @Iq @unI @unU (X4 @abT @alu @Option.isSome_some.{0} @RE)) hm ?_|(refine Xi ?_ ?_<;>try intro ht)|exact Xx|fail)))
 have e0:jO (min 1 n) [mG s]++fH (min 1 n) (aI n [AV.lit (Value.bool false)])=rowsOf mG (rN n (min 1 n) s):=by
  unfold rN rowsOf;rw[List.drop_replicate];rcases Nat.eq_zero_or_pos n with h|h
  ·subst h;rfl
  ·rw[wF h,dJ,O1,O1];rfl
 have e0':jO (min 1 n) [mG s]++fH (min 1 n) (br (aI n false))=rowsOf mG (rN n (min 1 n) s):=by
  rw[<- e0];simp[br]
 first|rw[e0]|rw[e0']
 refine bd (λi:Nat=>(⟨ar [(7,.ref 0 1 0 n),(8,OJ i)],[.arr 1 (rowsOf mG (rN n i s))]⟩:St)) (λi=>i<=n/\(i=0->n=0)) (λi=>n-i) (min 1 n) ⟨CZ,CZ⟩ (Xv X0) ?_;rintro i⟨hi,hr⟩Ql ao ax;by_cases aq:i<n
 ·have e1:i+min i (n-i)<=n:=CZ;have hl:=alD (s:=s) hi;have GP:=λn s=>alB (n:=n) (s:=s) (aU i);((repeat'(first|refine Va (X5 @Option.map_none.{0,0} @List.drop_zero.{0} @GP @cU (X3 @mL.{0} @KJ @hl)) ?_|(refine Xi ?_ ?_<;>try intro ht)|exact Xx|fail)))
  rw[alC e1 (Nat.min_le_left _ _)];exact ao _ (i+min i (n-i)) ⟨CZ,CZ⟩ CZ (Xv X0)
 ·obtain rfl:i=n:=CZ;((repeat'(first|refine Va X0 ?_|(refine Xi ?_ ?_<;>try intro ht)|exact Xx|fail)))
  refine ax _ _ rfl ?_;clear ao ax Ql;repeat(refine Xu ?_)
  refine Vb X0 ?_;have e2:rN i i s=aI i s:=by simp[rN]
  rw[e2];exact Xw false [0] X0
def dy(m:aj):List (List Bool):=m.cls.map λl=>aI l.length true
def dR(m:aj):List (List Bool):=if j6 m=0 then dy m else []
def NO(xs:List (List Bool))(b:List Bool):rowsOf aE xs++[[AV.tree 1 (br b)]]=rowsOf aE (xs++[b]):=by simp[rowsOf,aE]
def TN(m:aj)(hm:MB m):Holds Tryz.prog 51 [.agg (ay m)] [] (.tree 1 (rowsOf aE (dR m))) []:=by
 have h1:=MQ m hm;have xf:=hm.cls;generalize au:dR m=res;unfold dR at au;refine Holds.aQ 25 0 [.tmp 2] Tryz.func51 ?_;by_cases hv:j6 m=0;rotate_left
 ·rw[if_neg hv]at au;rw[<- au];generalize j6 m=e at *;((repeat'(first|refine Vd X0 h1 ?_|(refine Xi ?_ ?_<;>try intro ht)|exact Xx|fail)))
  exact xS [] true Fs trivial Fs Fs cC.nil
 rw[if_pos hv]at au;rw[hv]at h1;have cf:=oB.1 hv;have s8:=cf.cls;((repeat'(first|refine Vd @bne_self_eq_false.{0} h1 ?_|(refine Xi ?_ ?_<;>try intro ht)|exact Xx|fail)))
 refine bd (λz:Nat×List (List Bool)=>(⟨ar [(1,.ptr 0 0 0),(3,.ref 1 1 0 z.2.length),(10,.tree 1 (rowsOf bm m.cls)),(11,OJ m.cls.length),(12,OJ z.1)],[.var (ay m),.arr 1 (rowsOf aE z.2)]⟩:St))
  (λz=>z.1<=m.cls.length/\z.2=(dy m).take z.1) (λz=>m.cls.length-z.1) (0,[]) ⟨aS _,rfl⟩ ?_ ?_
 ·refine aH.trans (aH.nil 3 1 (by simp only[Kc,simprocAttr]) Fs) ?_;exact Xv X0
 rintro⟨i,xs⟩⟨hi,dN⟩Ql ao ax;dsimp only at hi dN ⊢;have kO:(dy m).length=m.cls.length:=by simp[dy]
 by_cases aq:i<m.cls.length
 ·have sV:xs.length=i:=by rw[dN,fZ];omega
  have fP:(dy m).take (i+1)=xs++[aI (m.cls.getD i default).length true]:=by
   rw[eQ CZ,<- dN];unfold dy;rw[gn _ _ _ aq]
  have vL:=cf.opt _ (aF (d:=default) aq);generalize bf:m.cls.getD i default=c at *;have MY:=alE true c.length CZ;repeat'(first|((fail_if_success (first|refine eH 7 ?_|refine eI 7 ?_));refine Xr (X2 @bf @bm.eq_1) ?_;intro K hK)|(refine hK _ ?_;clear hK K)|(refine Xi ?_ ?_<;>try intro ht)|refine Xy ?_|refine Xd ?_ ?_|exact Xx|fail)
  refine Ln 5 Fs ?_;intro K K1 hK yk;simp(disch:=omega)only[Ac,↓Pc,simprocAttr,jO];refine vh [] MY Fs trivial ⟨cC.fz (rows:=rowsOf mG [true]) rfl rfl Fl,.pure rfl,trivial⟩ rfl (by simp[C4,mG,rowsOf,flat]) ?_;simp(disch:=omega)only[Ac,↓Pc,simprocAttr];refine yk _ ⟨ar [(1,.ptr 0 0 0),(3,.ref 1 1 0 xs.length),(10,.tree 1 (rowsOf bm m.cls)),(11,OJ m.cls.length),(12,OJ i),(16,.ref 1 1 0 xs.length),(20,.tree 1 (br (aI c.length true)))],[.var (ay m),.arr 1 (rowsOf aE xs)]⟩ ?_ ?_
  ·rw[<- alA];exact Xs true [0,1] X0
  clear yk K1;simp(disch:=omega)only[Ac,↓Pc,simprocAttr,fH,NO];repeat'(first|with_reducible refine c6 ?_ ?_|omega)
  refine hK _ ?_;clear hK K;repeat(refine Xu ?_)
  refine Va X0 ?_;refine ao _ (i+1,xs++[aI c.length true]) ⟨Ji,fP.symm⟩ Ji ?_;exact Xs false [0,3] X0
 ·rw[c9 CZ]at dN;((repeat'(first|refine Va X0 ?_|(refine Xi ?_ ?_<;>try intro ht)|exact Xx|fail)))
  refine ax _ _ rfl ?_;clear ao ax Ql;repeat(refine Xu ?_)
  refine Vb X0 ?_;rw[dN,au];exact Xw true [] X0
abbrev eB:=Nat×List (List Bool)×List Int
def rO:List Int->AV
 |[]=>.lit (.slice none 0 0)
 |x::r=>.tree 1 (ints (x::r))
def l'(s:eB):List AV:=[OJ s.1,.tree 1 (rowsOf aE s.2.1),rO s.2.2]
def abU(l:List Int):(∃ y,rO l=AV.lit y/\y.oneCell'=true)\/∃ s r,rO l=.tree s r:=by
 cases l with
 |nil=>exact .inl ⟨_,rfl,rfl⟩
 |cons x r=>exact .inr ⟨_,_,rfl⟩
def abV(l:List Int)(x:Value):lJ [rO l,.lit x]=true:=by cases l<;>rfl
def alG(l:List Int):cQ (rO l)=true:=by cases l<;>rfl
instance:Row l' 3:=⟨λ_=>rfl,λx v hv=>by
 simp only[l',a8,iJ,or_false]at hv;rcases hv with rfl|rfl|rfl
 ·exact .inl ⟨_,rfl,rfl⟩
 ·exact .inr ⟨_,_,rfl⟩
 ·exact abU _⟩
def nd(P:List Nd)(i:Nat):Nd:=P.getD i default
def oP(P:List Nd)(s:eB)(o:Nat):eB:=(((nd P s.1).kids.getD o 0).toNat,mB s.2.1 (nd P s.1).cls.toNat o,s.2.2++[(nd P s.1).cls])
def jk(P:List Nd)(s:eB)(n:Nat):List eB:=(List.range n).map (oP P s)
def tw(P:List Nd)(s:eB):List eB:=jk P s (nd P s.1).kids.length
def abW(P:List Nd)(s:eB)(n:Nat):jk P s (n+1)=jk P s n++[oP P s n]:=by unfold jk;rw[List.range_succ,dJ];rfl
def uP(P:List Nd):Nat->eB->List eB
 |0,_=>[]
 |f+1,s=>s::((tw P s).reverse.flatMap (uP P f))
def vs(P:List Nd)(s:eB):List eB:=uP P (P.length-s.1) s
def Down(P:List Nd):Prop:=∀ i,i<P.length->∀ k∈(nd P i).kids,(i:Int)<k/\k<P.length
def abX{m:aj}{P:List Nd}(h:l9 m P=true){i:Nat}(hi:i<P.length):mC m P.length i (nd P i)=true:=by
 cases hb:mC m P.length i (nd P i) with
 |true=>rfl
 |false=>rw[abj hi hb]at h;cases h
def NP{m:aj}{P:List Nd}(h:l9 m P=true):Down P:=λi hi k hk=>by
 have:=abX h hi;unfold mC at this;rw[Bool.and_eq_true,e8]at this;have h2:=this.2 k hk;unfold pL at h2;exact of_decide_eq_true h2
def alH{m:aj}{P:List Nd}(h:l9 m P=true):1<=P.length/\P.length<=20000:=by
 by_cases hs:1<=P.length/\P.length<=20000
 ·exact hs
 ·rw[abk hs]at h;cases h
def AD{P:List Nd}{s t:eB}(h:t∈tw P s):∃o,o<(nd P s.1).kids.length/\t=oP P s o:=by
 unfold tw jk at h;obtain⟨o,ho,rfl⟩:=b6.1 h;exact⟨o,List.mem_range.1 ho,rfl⟩
def EU{P:List Nd}(hd:Down P){s:eB}(hs:s.1<P.length){o:Nat}(ho:o<(nd P s.1).kids.length):s.1<(oP P s o).1/\(oP P s o).1<P.length/\(((oP P s o).1:Nat):Int)=(nd P s.1).kids.getD o 0:=by
 have:=hd s.1 hs _ (aF (l:=(nd P s.1).kids) (i:=o) (d:=0) ho);unfold oP;dsimp only;omega
def alI{P:List Nd}(hd:Down P):∀ (f:Nat) (s:eB),s.1<P.length->P.length-s.1<=f->uP P f s=uP P (P.length-s.1) s:=by
 intro f
 induction f using Nat.strongRecOn with
 |_ f ih =>
  intro s hs hf;cases f with
  |zero=>omega
  |succ f =>
   obtain⟨g,hg⟩:∃g,P.length-s.1=g+1:=⟨P.length-s.1-1,CZ⟩;rw[hg,uP,uP];refine congrArg _ ?_;have key:∀ t∈(tw P s).reverse,uP P f t=uP P g t:=λt ht=>by
    obtain⟨o,ho,rfl⟩:=AD (AY.1 ht);obtain⟨h1,h2,_⟩:=EU hd hs ho;rw[ih f CZ _ h2 CZ,ih g CZ _ h2 CZ]
   generalize (tw P s).reverse=L at key
   induction L with
   |nil=>rfl
   |cons t L EV=>rw[xL,xL,key t Fl,EV λu hu=>key u (by simp[hu])]
def EW{P:List Nd}(hd:Down P){s:eB}(hs:s.1<P.length):vs P s=s::(tw P s).reverse.flatMap (vs P):=by
 unfold vs;obtain⟨g,hg⟩:∃g,P.length-s.1=g+1:=⟨P.length-s.1-1,CZ⟩;rw[hg,uP];refine congrArg _ ?_;have key:∀ t∈(tw P s).reverse,uP P g t=uP P (P.length-t.1) t:=λt ht=>by
  obtain⟨o,ho,rfl⟩:=AD (AY.1 ht);obtain⟨h1,h2,_⟩:=EU hd hs ho;exact alI hd g _ h2 CZ
 generalize (tw P s).reverse=L at key
 induction L with
 |nil=>rfl
 |cons t L EV=>rw[xL,xL,key t Fl,EV λu hu=>key u (by simp[hu])]
def lf{α:Type}(P:List Nd)(step:α->eB->α×Bool):List eB->α->α×Bool
 |[],a=>(a,true)
 |s::L,a=>if s.2.2.contains (nd P s.1).cls=true then(a,false) else if(step a s).2=true then lf P step L (step a s).1 else((step a s).1,false)
def root(m:aj):eB:=(0,dR m,[])
def rP{α:Type}(m:aj)(P:List Nd)(step:α->eB->α×Bool)(a:α):α×Bool :=
 if j6 m=0/\l9 m P=true then lf P step (vs P (root m)) a else(a,false)
def AE(m:aj)(P:List Nd)(s:eB):Prop:=s.1<P.length/\cP m s.2.1/\s.2.2.length<=s.1
def K8{m:aj}{x y:List (List Bool)}(h:cP m x)(he:y.map jB=x.map jB):cP m y:=by
 have hl:=congrArg jB he;rw[eu,eu]at hl;refine⟨by rw[hl];exact h.1,λi hi=>?_⟩;have h2:=congrArg (λz=>z[i]?) he;simp only[List.getElem?_map]at h2;rw[bS hi,bS CZ]at h2;simp only[Option.map_some,Option.some.injEq]at h2;rw[<- h.2 i CZ,az,az,bS hi,bS CZ];exact h2
def alJ {m:aj} {P:List Nd} (hd:Down P) {s:eB} (h:AE m P s) {o:Nat} (ho:o<(nd P s.1).kids.length):AE m P (oP P s o) :=
  ⟨(EU hd h.1 ho).2.1,K8 h.2.1 (abL _ _ _),by
    have h1:=(EU hd h.1 ho).1
    have h2:=h.2.2
    show (s.2.2++[_]).length<=_
    rw[bI,List.length_singleton];omega⟩
def GL{m:aj}(h:VM m):cP m (dR m):=by
 unfold dR;rw[if_pos (oB.2 h)];refine⟨by simp[dy],λi hi=>?_⟩;have aq:i<m.cls.length:=by simpa [dy] using hi
 unfold dy;rw[gn _ _ _ aq,mL]
def AF:List eB->Prop
 |[]=>True
 |t::T=>T.length<=24*t.1/\AF T
def AF.push{T:List eB}{i:Nat}(h:AF T)(hT:T.length<=24*i):∀ (L:List eB),(∀ t∈L,i<t.1)->L.length<=24->AF (L++T)
 |[],_,_=>h
 |t::L,hl,hn=>by
  have h1:=hl t Fl;have h2:=AF.push h hT L (λu hu=>hl u (by simp[hu])) (by simp at hn;omega);refine⟨?_,h2⟩;simp only[cV]at hn;show(L++T).length<=_;rw[bI];omega
end T

