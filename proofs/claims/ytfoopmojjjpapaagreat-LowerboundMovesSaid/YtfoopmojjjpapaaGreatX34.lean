import Derived.Test.YtfoopmojjjpapaaGreatX33
set_option linter.all false
set_option maxHeartbeats 0
set_option maxRecDepth 20000
open List renaming append_assoc→bC,length_append→bF,cons_append→dh,nil_append→ec,set_cons_succ→wD,set_cons_zero→tP,length_cons→dt,length_nil→nR,take_zero→nU,mem_cons→bj,not_mem_nil→gU,length_map→fW,length_take→e8,take_of_length_le→c8,getElem?_eq_some_iff→aR,length_set→bK,getElem?_set_ne→gV
open Nat renaming zero_add→gm,zero_le→aT,le_refl→bb
open Go Go.Am Go.Proofs
namespace T
def Lo(xs:List Nm)(n:Int):rowsOf aW xs++[[AV.lit (.int .i64 n),.lit (.bool (decide (1099511627776<=n)))]]=rowsOf aW (xs++[ez n]):=by simp[rowsOf,aW,ez]
def ag3{m:ah}(hm:VM m)(os:List Ob):cQ Tryz.prog 78 [.agg (ao m)] os λr ob=>∃ gi ai bi D E,r=.ptr gi 0 0/\LO aW (GB m gi ai bi D E) D E (S0 m) (T0 m) ob/\gF os ob:=by
 have qH:=hm.cls;have oL:=hm.ae;refine cQ.aK 94 os.length [.tmp 2] Tryz.func78 ?_;refine Vb (X3 @bE @bC.{0} @bF.{0}) ?_;have Yq:(os++[Ob.var (ao m),Ob.var (ao m++[.lit (.slice none 0 0),.lit (.slice none 0 0)])])[os.length+1]?=some (.var (ao m++[.lit (.slice none 0 0),.lit (.slice none 0 0)])):=by rw[kS];rfl
 refine cr (aF.qt (os.length+1) 4 1 Yq rfl NI) ?_;simp only[bC,dh,ec,Dx,wD,tP,bF,dt,nR,ao,gm,Nat.reduceAdd];clear Yq;refine cr (aF.qt (os.length+1) 5 1 (by rw[kS];rfl) rfl NI) ?_;simp only[bC,dh,ec,Dx,wD,tP,bF,dt,nR,gm,Nat.reduceAdd];have Yr:LO aW [(os.length+1,.var (gC m (os.length+2) (os.length+3) [] [])),(os.length+2,.arr 1 (rowsOf cy [])),(os.length,.var (ao m)),(os.length+3,.arr 1 (rowsOf cy []))] [] [] ((S0 m).take 0) [] (os++[.var (ao m),.var (gC m (os.length+2) (os.length+3) [] []),.arr 1 [],.arr 1 []]):=by
  refine⟨λb hb=>?_,by rw[nU];exact RI.nil,RI.nil,Iy⟩;simp only[bj,gU,or_false]at hb;rcases hb with rfl|rfl|rfl|rfl
  ·exact⟨by rw[kS];rfl,Iy⟩
  ·exact⟨by rw[kS];rfl,Iy⟩
  ·exact⟨by rw[kq],Iy⟩
  ·exact⟨by rw[kS];rfl,Iy⟩
 refine aU (λz:Nat×List Ob×Nat×List (Nat×Nat)=>(⟨an [(1,.ptr os.length 0 0),(3,.ptr (os.length+1) 0 0),(21,.tree 1 (rowsOf aQ m.cls)),(22,N0 m.cls.length),(23,N0 z.1)],z.2.1⟩:St))
  (λz=>z.1<=m.cls.length/\z.2.2.2.length=z.1/\LO aW [(os.length+1,.var (gC m z.2.2.1 (os.length+3) z.2.2.2 [])),(z.2.2.1,.arr 1 (rowsOf cy z.2.2.2)),(os.length,.var (ao m)),(os.length+3,.arr 1 (rowsOf cy []))] z.2.2.2 [] ((S0 m).take z.1) [] z.2.1/\gF os z.2.1/\os.length+1<z.2.2.1/\z.2.2.1≠os.length+3)
  (λz=>m.cls.length-z.1) (0,os++[.var (ao m),.var (gC m (os.length+2) (os.length+3) [] []),.arr 1 [],.arr 1 []],os.length+2,[]) ⟨aT _,rfl,Yr,(gF.refl os).app _,NQ,NQ⟩ (Xv X0) ?_
 clear Yr;rintro⟨i,ob,ai,D⟩⟨hi,hD,hL,aX,zB,Ls⟩Ql ak ar;dsimp only at hi hD hL aX zB Ls ⊢;by_cases aq:i<m.cls.length
 ·have jM:=aG (d:=default) aq;have uH:=hm.opt _ jM;have e9:(S0 m).take (i+1)=(S0 m).take i++[dy (bV (m.cls.getD i default))]:=by
   rw[eZ (by unfold S0;rw[fW];exact aq)];unfold S0;rw[iX _ _ _ aq]
  have ng:=λo ho=>hm.rz _ jM o ho;have Ys:=λo ho=>Yt hm jM (o:=o) ho;generalize bc:m.cls.getD i default=c at *;((repeat'(first|refine Va (X2 @bc @aQ.eq_1) ?_|(refine Xi ?_ ?_<;>try intro ht)|exact Xx|fail)))
  have hvl:(dy (bV c)).length=c.length:=by unfold dy bV;simp
  refine aU (λz:Nat×List Ob×Nat×List Nm=>(⟨an [(1,.ptr os.length 0 0),(3,.ptr (os.length+1) 0 0),(21,.tree 1 (rowsOf aQ m.cls)),(22,N0 m.cls.length),(23,N0 i),(6,.ref z.2.2.1 2 0 z.2.2.2.length),(27,.tree 6 (rowsOf b6 c)),(28,N0 c.length),(29,N0 z.1)],z.2.1⟩:St))
   (λz=>z.1<=c.length/\LO aW [(os.length+1,.var (gC m ai (os.length+3) D [])),(ai,.arr 1 (rowsOf cy D)),(os.length,.var (ao m)),(os.length+3,.arr 1 (rowsOf cy []))] D [] ((S0 m).take i) [] z.2.1/\gF os z.2.1/\z.2.1[z.2.2.1]?=some (.arr 2 (rowsOf aW z.2.2.2))/\z.2.2.1 ∉ List.map (λq:Nat×Nat=>q.1) (D++[])/\os.length<=z.2.2.1/\z.2.2.2=(dy (bV c)).take z.1)
   (λz=>c.length-z.1) (0,ob++[.arr 2 []],ob.length,[]) ⟨aT _,hL.app _,aX.app _,kq _ _ _,hL.fresh (bb _),aX.len,rfl⟩ ?_ ?_
  ·refine aF.trans (aF.nil 6 2 (by simp only[Kc,simprocAttr]) NI) ?_;exact Xv X0
  clear hL aX;rintro⟨k,ok,oi,xs⟩⟨hk,hL,aX,kU,ee,oM,dq⟩c7 br bx;dsimp only at hk hL aX kU ee oM dq ⊢;by_cases ba:k<c.length
  ·have fJ:=aG (l:=c) (d:=default) ba;have Yu:=GG (ng _ fJ);have amh:=Ys _ fJ;have G9:(dy (bV c)).getD k default=ez (qC (c.getD k default)):=by
    unfold dy bV;rw[List.map_map,iX _ _ _ ba];rfl
   have BY:=eZ (l:=dy (bV c)) (k:=k) Ix;rw[G9,<- dq]at BY;have qF:xs.length=k:=by rw[dq,e8];omega
   generalize tv:c.getD k default=o at *;((repeat'(first|refine Va (X3 @tv @bE @b6.eq_1) ?_|(refine Xi ?_ ?_<;>try intro ht)|exact Xx|fail)))
   refine aU (λz:Nat×List Ob=>(⟨an [(1,.ptr os.length 0 0),(3,.ptr (os.length+1) 0 0),(21,.tree 1 (rowsOf aQ m.cls)),(22,N0 m.cls.length),(23,N0 i),(6,.ref oi 2 0 xs.length),(27,.tree 6 (rowsOf b6 c)),(28,N0 c.length),(29,N0 k),(9,N0 (((o.ch.take z.1).map (·.2)).foldl dZ 0)),(34,.tree 2 (rowsOf dm o.ch)),(35,N0 o.ch.length),(36,N0 z.1)],z.2⟩:St))
    (λz=>z.1<=o.ch.length/\LO aW [(os.length+1,.var (gC m ai (os.length+3) D [])),(ai,.arr 1 (rowsOf cy D)),(os.length,.var (ao m)),(os.length+3,.arr 1 (rowsOf cy []))] D [] ((S0 m).take i) [] z.2/\gF os z.2/\z.2[oi]?=some (.arr 2 (rowsOf aW xs)))
    (λz=>o.ch.length-z.1) (0,ok++[.var (b6 o)]) ⟨aT _,hL.app _,aX.app _,aL kU _⟩ (Xv (X4 @nU.{0} @List.map_nil.{0,0} @List.foldl_nil.{0,0} @b6.eq_1)) ?_
   clear hL aX kU;rintro⟨q,oq⟩⟨hq,hL,aX,kU⟩mC gG fI;dsimp only at hq hL aX kU ⊢;have hs:=Du ((o.ch.take q).map (·.2)) 0 (λx hx=>by
    obtain⟨c,fD,rfl⟩:=List.mem_map.1 hx;exact Yu c (List.mem_of_mem_take fD)) (by unfold bM;decide)
   by_cases vA:q<o.ch.length
   ·have ahj:=Yu _ (aG (d:=default) vA);have dU:=Ww o.ch q vA;generalize ((o.ch.take q).map (·.2)).foldl dZ 0=s at *;have vN:=aeB s (o.ch.getD q default).2 hs ahj;generalize vO:o.ch.getD q default=y at *;((repeat'(first|refine Vc (X3 @vO @bE @dm.eq_1) vN ?_|(refine Xi ?_ ?_<;>try intro ht)|exact Xx|fail)))
    refine gG _ (q+1,oq++[.var (dm y)]) ⟨NQ,hL.app _,aX.app _,aL kU _⟩ NQ ?_;simp only[dU];exact Xv @dm.eq_1
   ·have kD:((o.ch.take q).map (·.2)).foldl dZ 0=qC o:=by rw[c8 Ix];rfl
    rw[kD]at hs;rw[<- kD]at BY;generalize ((o.ch.take q).map (·.2)).foldl dZ 0=s at *;have Lt:=Ln s;have eoi:=aL kU;have Lu:=iD kU;have mV:=(aR.1 kU).1;((repeat'(first|refine Va X0 ?_|(refine Xi ?_ ?_<;>try intro ht)|exact Xx|fail)))
    refine fI _ _ rfl ?_;clear gG fI mC;repeat(refine Xu ?_)
    refine Vc (X5 @kU @eoi @Lu @aW.eq_1 (X5 @ez.eq_1 @bE @bC.{0} @bF.{0} (X2 @bK.{0} @Lo))) Lt ?_;have l8:=(hL.GM (y:=.gone) ee kU).app [.arr 2 [aW (ez s)],.arr 2 (rowsOf aW (xs++[ez s]))];refine br _ (k+1,oq.set oi .gone++[.arr 2 [aW (ez s)],.arr 2 (rowsOf aW (xs++[ez s]))],oq.length+1,xs++[ez s]) ⟨NQ,l8,(aX.set oM).app _,oH _ _ _ _ _,(hL.GM (y:=.gone) ee kU).fresh (by dsimp only;rw[bK];omega),by dsimp only;have:=aX.len;omega,BY.symm⟩ NQ ?_;exact Xv (X2 @aW.eq_1 @ez.eq_1)
  ·rw[c8 Ix]at dq;have ug:=(hL.base (os.length+1,.var (gC m ai (os.length+3) D [])) Iy).1;have uK:=(hL.base (ai,.arr 1 (rowsOf cy D)) Iy).1;dsimp only at ug uK;have Lv:=aL ug;have Lw:=aL uK;have Lx:=iD uK;have p7:(ok.set ai .gone)[os.length+1]?=some (.var (gC m ai (os.length+3) D [])):=by rw[gV Ix];exact ug
   have pI:=aL p7;have Ly:=iD p7;have dU:=hL.step kU ee (by simp only[bj,gU,or_false,forall_eq_or_imp,forall_eq];omega) [.tree 1 (rowsOf aQ m.cls),.tree 4 (rowsOf aH m.ae),.tree 4 (rowsOf db m.aC),N0 m.rules,.ref (ok.length+1) 1 0 (D.length+1),.ref (os.length+3) 1 0 0] (rowsOf cy (D++[(oi,xs.length)])) (.arr 1 [[.ref oi 2 0 xs.length]]);have Lz:gC m (ok.length+1) (os.length+3) (D++[(oi,xs.length)]) []=[.tree 1 (rowsOf aQ m.cls),.tree 4 (rowsOf aH m.ae),.tree 4 (rowsOf db m.aC),N0 m.rules,.ref (ok.length+1) 1 0 (D.length+1),.ref (os.length+3) 1 0 0]:=by simp[gC]
   have hb3:=(aR.1 (hL.base (os.length+3,.arr 1 (rowsOf cy [])) Iy).1).1;have kM:=(aR.1 uK).1;dsimp only at hb3;((repeat'(first|refine Va X0 ?_|(refine Xi ?_ ?_<;>try intro ht)|exact Xx|fail)))
   refine bx _ _ rfl ?_;clear br bx c7;repeat(refine Xu ?_)
   refine Va (X5 @ug @uK @Lv @Lw (X5 @Lx @pI @Ly @gC.eq_1 (X5 @GJ @bE @bC.{0} @bF.{0} @bK.{0}))) ?_;refine ak _ (i+1,_,ok.length+1,D++[(oi,xs.length)]) ⟨NQ,NS,by dsimp only;rw[e9,<- dq,Lz];exact dU,((aX.set Ix).set Ix).app _,NQ,NQ⟩ NQ ?_;exact Xv X0
 rw[c8 (by unfold S0;rw[fW];omega)]at hL;have xf:=(hL.base (os.length,.var (ao m)) Iy).1;dsimp only at xf;((repeat'(first|refine Va @xf ?_|(refine Xi ?_ ?_<;>try intro ht)|exact Xx|fail)))
 refine ar _ _ rfl ?_;clear ak ar Ql;repeat(refine Xu ?_)
 refine Va @xf ?_;have Yv:LO aW [(os.length+1,.var (gC m ai (os.length+3) D [])),(os.length+3,.arr 1 (rowsOf cy [])),(os.length,.var (ao m)),(ai,.arr 1 (rowsOf cy D))] [] D ((T0 m).take 0) (S0 m) ob:=hL.swap.sub (by simp only[bj,gU,or_false];intro b hb;rcases hb with rfl|rfl|rfl|rfl<;>simp);refine aU (λz:Nat×List Ob×Nat×List (Nat×Nat)=>(⟨an [(1,.ptr os.length 0 0),(3,.ptr (os.length+1) 0 0),(63,.tree 4 (rowsOf aH m.ae)),(64,N0 m.ae.length),(65,N0 z.1)],z.2.1⟩:St))
  (λz=>z.1<=m.ae.length/\z.2.2.2.length=z.1/\LO aW [(os.length+1,.var (gC m ai z.2.2.1 D z.2.2.2)),(z.2.2.1,.arr 1 (rowsOf cy z.2.2.2)),(os.length,.var (ao m)),(ai,.arr 1 (rowsOf cy D))] z.2.2.2 D ((T0 m).take z.1) (S0 m) z.2.1/\gF os z.2.1/\os.length+1<z.2.2.1/\ai≠z.2.2.1)
  (λz=>m.ae.length-z.1) (0,ob,os.length+3,[]) ⟨aT _,rfl,Yv,aX,NQ,Ls⟩ (Xv X0) ?_
 clear hL Yv aX xf hi aq Ls ob;rintro⟨i,ob,bi,E⟩⟨hi,hE,hL,aX,fY,iY⟩Ql ak ar;dsimp only at hi hE hL aX fY iY ⊢;by_cases aq:i<m.ae.length
 ·have dO:=jP hm.pr _ (aG (d:=default) aq);have nk:=BX dO hm;have ka:=GN dO;have e9:(T0 m).take (i+1)=(T0 m).take i++[dy (m.ae.getD i default).ax]:=by
   rw[eZ (by unfold T0;rw[fW];exact aq)];unfold T0;rw[iX _ _ _ aq]
  generalize cu:m.ae.getD i default=p at *;((repeat'(first|refine Va (X3 @cu @bE @aH.eq_1) ?_|(refine Xi ?_ ?_<;>try intro ht)|exact Xx|fail)))
  have hvl:(dy p.ax).length=p.ax.length:=by unfold dy;simp
  refine aU (λz:Nat×List Ob×Nat×List Nm=>(⟨an [(1,.ptr os.length 0 0),(3,.ptr (os.length+1) 0 0),(63,.tree 4 (rowsOf aH m.ae)),(64,N0 m.ae.length),(65,N0 i),(14,.ref z.2.2.1 2 0 z.2.2.2.length),(70,.tree 1 (ints p.ax)),(71,N0 p.ax.length),(72,N0 z.1)],z.2.1⟩:St))
   (λz=>z.1<=p.ax.length/\LO aW [(os.length+1,.var (gC m ai bi D E)),(bi,.arr 1 (rowsOf cy E)),(os.length,.var (ao m)),(ai,.arr 1 (rowsOf cy D))] E D ((T0 m).take i) (S0 m) z.2.1/\gF os z.2.1/\z.2.1[z.2.2.1]?=some (.arr 2 (rowsOf aW z.2.2.2))/\z.2.2.1 ∉ List.map (λq:Nat×Nat=>q.1) (E++D)/\os.length<=z.2.2.1/\z.2.2.2=(dy p.ax).take z.1)
   (λz=>p.ax.length-z.1) (0,(ob++[.var (aH p)])++[.arr 2 []],(ob++[Ob.var (aH p)]).length,[]) ⟨aT _,(hL.app _).app _,(aX.app _).app _,kq _ _ _,(hL.app [.var (aH p)]).fresh (bb _),by simp;have:=aX.len;omega,rfl⟩ ?_ ?_
  ·refine aF.trans (aF.nil 14 2 (by simp only[Kc,simprocAttr]) NI) ?_;exact Xv X0
  clear hL aX;rintro⟨k,ok,oi,xs⟩⟨hk,hL,aX,kU,ee,oM,dq⟩c7 br bx;dsimp only at hk hL aX kU ee oM dq ⊢;by_cases ba:k<p.ax.length
  ·have G9:(dy p.ax).getD k default=ez (p.ax.getD k 0):=by
    unfold dy;rw[iX _ _ _ ba];rfl
   have BY:=eZ (l:=dy p.ax) (k:=k) Ix;rw[G9,<- dq]at BY;have qF:xs.length=k:=by rw[dq,e8];omega
   have hs:=ka _ (aG (d:=0) ba);unfold bM at hs;generalize vO:p.ax.getD k 0=s at *;have Lt:=Ln s;have eoi:=aL kU;have Lu:=iD kU;have mV:=(aR.1 kU).1;((repeat'(first|refine Vc (X5 @vO @kU @eoi @Lu (X5 @aW.eq_1 @ez.eq_1 @bE @bC.{0} (X3 @bF.{0} @bK.{0} @Lo))) Lt ?_|(refine Xi ?_ ?_<;>try intro ht)|exact Xx|fail)))
   have l8:=(hL.GM (y:=.gone) ee kU).app [.arr 2 [aW (ez s)],.arr 2 (rowsOf aW (xs++[ez s]))];refine br _ (k+1,ok.set oi .gone++[.arr 2 [aW (ez s)],.arr 2 (rowsOf aW (xs++[ez s]))],ok.length+1,xs++[ez s]) ⟨NQ,l8,(aX.set oM).app _,oH _ _ _ _ _,(hL.GM (y:=.gone) ee kU).fresh (by dsimp only;rw[bK];omega),by dsimp only;have:=aX.len;omega,BY.symm⟩ NQ ?_;exact Xv (X2 @aW.eq_1 @ez.eq_1)
  ·rw[c8 Ix]at dq;have ug:=(hL.base (os.length+1,.var (gC m ai bi D E)) Iy).1;have uK:=(hL.base (bi,.arr 1 (rowsOf cy E)) Iy).1;have ha3:=(aR.1 (hL.base (ai,.arr 1 (rowsOf cy D)) Iy).1).1;dsimp only at ug uK ha3;have Lv:=aL ug;have Lw:=aL uK;have Lx:=iD uK;have p7:(ok.set bi .gone)[os.length+1]?=some (.var (gC m ai bi D E)):=by rw[gV Ix];exact ug
   have pI:=aL p7;have Ly:=iD p7;have dU:=hL.step kU ee (by simp only[bj,gU,or_false,forall_eq_or_imp,forall_eq];omega) [.tree 1 (rowsOf aQ m.cls),.tree 4 (rowsOf aH m.ae),.tree 4 (rowsOf db m.aC),N0 m.rules,.ref ai 1 0 D.length,.ref (ok.length+1) 1 0 (E.length+1)] (rowsOf cy (E++[(oi,xs.length)])) (.arr 1 [[.ref oi 2 0 xs.length]]);have Lz:gC m ai (ok.length+1) D (E++[(oi,xs.length)])=[.tree 1 (rowsOf aQ m.cls),.tree 4 (rowsOf aH m.ae),.tree 4 (rowsOf db m.aC),N0 m.rules,.ref ai 1 0 D.length,.ref (ok.length+1) 1 0 (E.length+1)]:=by simp[gC]
   have kM:=(aR.1 uK).1;((repeat'(first|refine Va X0 ?_|(refine Xi ?_ ?_<;>try intro ht)|exact Xx|fail)))
   refine bx _ _ rfl ?_;clear br bx c7;repeat(refine Xu ?_)
   refine Va (X5 @ug @uK @Lv @Lw (X5 @Lx @pI @Ly @gC.eq_1 (X5 @GJ @bE @bC.{0} @bF.{0} @bK.{0}))) ?_;refine ak _ (i+1,_,ok.length+1,E++[(oi,xs.length)]) ⟨NQ,NS,by dsimp only;rw[e9,<- dq,Lz];exact dU,((aX.set Ix).set Ix).app _,NQ,NQ⟩ NQ ?_;exact Xv X0
 rw[c8 (by unfold T0;rw[fW];omega)]at hL;((repeat'(first|refine Va X0 ?_|(refine Xi ?_ ?_<;>try intro ht)|exact Xx|fail)))
 refine ar _ _ rfl ?_;clear ak ar Ql;repeat(refine Xu ?_)
 refine Vb X0 ?_;unfold eH;simp only[dx,dv];simp(disch:=omega)only[Ac,↓Pc,simprocAttr];refine⟨.ptr (os.length+1) 0 0,ob,⟨os.length+1,ai,bi,D,E,rfl,hL.swap.sub ?_,aX⟩,ed rfl aX.len rfl⟩;simp only[bj,gU,or_false];intro b hb;rcases hb with rfl|rfl|rfl<;>simp
end T

