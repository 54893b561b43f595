import Derived.Test.YtfoopmojjjpapaaGreatX20
set_option linter.all false
set_option maxHeartbeats 0
set_option maxRecDepth 20000
open List renaming append_assoc→bz,length_append→bL,cons_append→ek,nil_append→gv,set_cons_succ→oY,set_cons_zero→oX,length_cons→cX,length_nil→kx,take_zero→lZ,mem_cons→bm,not_mem_nil→iT,length_map→fF,length_take→fe,map_nil→ns,foldl_nil→zd,mem_of_mem_take→q8,take_of_length_le→cZ,getElem?_eq_some_iff→aR,length_set→bw,getElem?_set_ne→fD,map_append→dH,take→ja,drop→eV,mem_append→cT,mem_singleton→c8,replicate→aO,map_take→E3,map_replicate→Ow
open Nat renaming zero_add→fc,zero_le→aW,le_refl→aX,min_eq_left→wm
open And renaming intro→cQ
open Bool renaming not_false→mH
open Go Go.Am Go.Proofs
namespace T
def LD(xs:List Nm)(n:Int):rowsOf a6 xs++[[AV.lit (.int .i64 n),.lit (.bool (decide (1099511627776<=n)))]]=rowsOf a6 (xs++[ew n]):=by simp[rowsOf,a6,ew]
def agH{m:ah}(hm:VM m)(os:List Ob):dy Tryz.prog 78 [.agg (aq m)] os λr ob=>∃ gi ai bi D E,r=.ptr gi 0 0/\LO a6 (GB m gi ai bi D E) D E (S0 m) (T0 m) ob/\gB os ob:=by
 have qV:=hm.cls;have oO:=hm.ae;refine dy.aN 94 os.length [.tmp 2] Tryz.func78 ?_;refine Vb (X3 @bH @bz.{0} @bL.{0}) ?_;have Vs:(os++[Ob.var (aq m),Ob.var (aq m++[.lit (.slice none 0 0),.lit (.slice none 0 0)])])[os.length+1]?=some (.var (aq m++[.lit (.slice none 0 0),.lit (.slice none 0 0)])):=by rw[kN];rfl
 refine cd (aF.sV (os.length+1) 4 1 Vs rfl IP) ?_;simp only[bz,ek,gv,DV,oY,oX,bL,cX,kx,aq,fc,Nat.reduceAdd];clear Vs;refine cd (aF.sV (os.length+1) 5 1 (by rw[kN];rfl) rfl IP) ?_;simp only[bz,ek,gv,DV,oY,oX,bL,cX,kx,fc,Nat.reduceAdd];have Vt:LO a6 [(os.length+1,.var (gC m (os.length+2) (os.length+3) [] [])),(os.length+2,.arr 1 (rowsOf cA [])),(os.length,.var (aq m)),(os.length+3,.arr 1 (rowsOf cA []))] [] [] ((S0 m).take 0) [] (os++[.var (aq m),.var (gC m (os.length+2) (os.length+3) [] []),.arr 1 [],.arr 1 []]):=by
  refine⟨λb hb=>?_,by rw[lZ];exact RI.nil,RI.nil,IM⟩;simp only[bm,iT,or_false]at hb;rcases hb with rfl|rfl|rfl|rfl
  ·exact⟨by rw[kN];rfl,IM⟩
  ·exact⟨by rw[kN];rfl,IM⟩
  ·exact⟨by rw[ka],IM⟩
  ·exact⟨by rw[kN];rfl,IM⟩
 refine bb (λz:Nat×List Ob×Nat×List (Nat×Nat)=>(⟨ao [(1,.ptr os.length 0 0),(3,.ptr (os.length+1) 0 0),(21,.tree 1 (rowsOf aV m.cls)),(22,Oi m.cls.length),(23,Oi z.1)],z.2.1⟩:St))
  (λz=>z.1<=m.cls.length/\z.2.2.2.length=z.1/\LO a6 [(os.length+1,.var (gC m z.2.2.1 (os.length+3) z.2.2.2 [])),(z.2.2.1,.arr 1 (rowsOf cA z.2.2.2)),(os.length,.var (aq m)),(os.length+3,.arr 1 (rowsOf cA []))] z.2.2.2 [] ((S0 m).take z.1) [] z.2.1/\gB os z.2.1/\os.length+1<z.2.2.1/\z.2.2.1≠os.length+3)
  (λz=>m.cls.length-z.1) (0,os++[.var (aq m),.var (gC m (os.length+2) (os.length+3) [] []),.arr 1 [],.arr 1 []],os.length+2,[]) ⟨aW _,rfl,Vt,(gB.refl os).app _,NZ,NZ⟩ (Xv X0) ?_
 clear Vt;rintro⟨i,ob,ai,D⟩⟨hi,hD,hL,a7,zN,LF⟩Ql ak au;dsimp only at hi hD hL a7 zN LF ⊢;by_cases ar:i<m.cls.length
 ·have jk:=aE (d:=default) ar;have qD:=hm.opt _ jk;have eM:(S0 m).take (i+1)=(S0 m).take i++[dq (b7 (m.cls.getD i default))]:=by
   rw[ei (by unfold S0;rw[fF];exact ar)];unfold S0;rw[gR _ _ _ ar]
  have kM:=λo ho=>hm.qK _ jk o ho;have Vu:=λo ho=>Vv hm jk (o:=o) ho;generalize bc:m.cls.getD i default=c at *;((repeat'(first|refine Va (X2 @bc @aV.eq_1) ?_|(refine Xi ?_ ?_<;>try intro ht)|exact Xx|fail)))
  have hvl:(dq (b7 c)).length=c.length:=by unfold dq b7;simp
  refine bb (λz:Nat×List Ob×Nat×List Nm=>(⟨ao [(1,.ptr os.length 0 0),(3,.ptr (os.length+1) 0 0),(21,.tree 1 (rowsOf aV m.cls)),(22,Oi m.cls.length),(23,Oi i),(6,.ref z.2.2.1 2 0 z.2.2.2.length),(27,.tree 6 (rowsOf dK c)),(28,Oi c.length),(29,Oi z.1)],z.2.1⟩:St))
   (λz=>z.1<=c.length/\LO a6 [(os.length+1,.var (gC m ai (os.length+3) D [])),(ai,.arr 1 (rowsOf cA D)),(os.length,.var (aq m)),(os.length+3,.arr 1 (rowsOf cA []))] D [] ((S0 m).take i) [] z.2.1/\gB os z.2.1/\z.2.1[z.2.2.1]?=some (.arr 2 (rowsOf a6 z.2.2.2))/\z.2.2.1 ∉ List.map (λq:Nat×Nat=>q.1) (D++[])/\os.length<=z.2.2.1/\z.2.2.2=(dq (b7 c)).take z.1)
   (λz=>c.length-z.1) (0,ob++[.arr 2 []],ob.length,[]) ⟨aW _,hL.app _,a7.app _,ka _ _ _,hL.fresh (aX _),a7.len,rfl⟩ ?_ ?_
  ·refine aF.trans (aF.nil 6 2 (by simp only[Kc,simprocAttr]) IP) ?_;exact Xv X0
  clear hL a7;rintro⟨k,ok,oi,xs⟩⟨hk,hL,a7,kQ,ef,oP,cO⟩dL bO bQ;dsimp only at hk hL a7 kQ ef oP cO ⊢;by_cases bf:k<c.length
  ·have wT:=aE (l:=c) (d:=default) bf;have Vw:=G3 (kM _ wT);have amJ:=Vu _ wT;have Gx:(dq (b7 c)).getD k default=ew (qN (c.getD k default)):=by
    unfold dq b7;rw[List.map_map,gR _ _ _ bf];rfl
   have Cc:=ei (l:=dq (b7 c)) (k:=k) AT;rw[Gx,<- cO]at Cc;have uJ:xs.length=k:=by rw[cO,fe];omega
   generalize tx:c.getD k default=o at *;((repeat'(first|refine Va (X3 @tx @bH @dK.eq_1) ?_|(refine Xi ?_ ?_<;>try intro ht)|exact Xx|fail)))
   refine bb (λz:Nat×List Ob=>(⟨ao [(1,.ptr os.length 0 0),(3,.ptr (os.length+1) 0 0),(21,.tree 1 (rowsOf aV m.cls)),(22,Oi m.cls.length),(23,Oi i),(6,.ref oi 2 0 xs.length),(27,.tree 6 (rowsOf dK c)),(28,Oi c.length),(29,Oi k),(9,Oi (((o.ch.take z.1).map (·.2)).foldl dW 0)),(34,.tree 2 (rowsOf dv o.ch)),(35,Oi o.ch.length),(36,Oi z.1)],z.2⟩:St))
    (λz=>z.1<=o.ch.length/\LO a6 [(os.length+1,.var (gC m ai (os.length+3) D [])),(ai,.arr 1 (rowsOf cA D)),(os.length,.var (aq m)),(os.length+3,.arr 1 (rowsOf cA []))] D [] ((S0 m).take i) [] z.2/\gB os z.2/\z.2[oi]?=some (.arr 2 (rowsOf a6 xs)))
    (λz=>o.ch.length-z.1) (0,ok++[.var (dK o)]) ⟨aW _,hL.app _,a7.app _,aK kQ _⟩ (Xv (X4 @lZ.{0} @ns.{0,0} @zd.{0,0} @dK.eq_1)) ?_
   clear hL a7 kQ;rintro⟨q,oq⟩⟨hq,hL,a7,kQ⟩nR iR gD;dsimp only at hq hL a7 kQ ⊢;have hs:=DT ((o.ch.take q).map (·.2)) 0 (λx hx=>by
    obtain⟨c,iK,rfl⟩:=List.mem_map.1 hx;exact Vw c (q8 iK)) (by unfold bJ;decide)
   by_cases xh:q<o.ch.length
   ·have agJ:=Vw _ (aE (d:=default) xh);have dm:=Tp o.ch q xh;generalize ((o.ch.take q).map (·.2)).foldl dW 0=s at *;have vL:=agK s (o.ch.getD q default).2 hs agJ;generalize vM:o.ch.getD q default=y at *;((repeat'(first|refine Vc (X3 @vM @bH @dv.eq_1) vL ?_|(refine Xi ?_ ?_<;>try intro ht)|exact Xx|fail)))
    refine iR _ (q+1,oq++[.var (dv y)]) ⟨NZ,hL.app _,a7.app _,aK kQ _⟩ NZ ?_;simp only[dm];exact Xv @dv.eq_1
   ·have kr:((o.ch.take q).map (·.2)).foldl dW 0=qN o:=by rw[cZ AT];rfl
    rw[kr]at hs;rw[<- kr]at Cc;generalize ((o.ch.take q).map (·.2)).foldl dW 0=s at *;have LH:=LI s;have eoi:=aK kQ;have LJ:=iG kQ;have nM:=(aR.1 kQ).1;((repeat'(first|refine Va X0 ?_|(refine Xi ?_ ?_<;>try intro ht)|exact Xx|fail)))
    refine gD _ _ rfl ?_;clear iR gD nR;repeat(refine Xu ?_)
    refine Vc (X5 @kQ @eoi @LJ @a6.eq_1 (X5 @ew.eq_1 @bH @bz.{0} @bL.{0} (X2 @bw.{0} @LD))) LH ?_;have lW:=(hL.G8 (y:=.gone) ef kQ).app [.arr 2 [a6 (ew s)],.arr 2 (rowsOf a6 (xs++[ew s]))];refine bO _ (k+1,oq.set oi .gone++[.arr 2 [a6 (ew s)],.arr 2 (rowsOf a6 (xs++[ew s]))],oq.length+1,xs++[ew s]) ⟨NZ,lW,(a7.set oP).app _,oI _ _ _ _ _,(hL.G8 (y:=.gone) ef kQ).fresh (by dsimp only;rw[bw];omega),by dsimp only;have:=a7.len;omega,Cc.symm⟩ NZ ?_;exact Xv (X2 @a6.eq_1 @ew.eq_1)
  ·rw[cZ AT]at cO;have uj:=(hL.base (os.length+1,.var (gC m ai (os.length+3) D [])) IM).1;have uK:=(hL.base (ai,.arr 1 (rowsOf cA D)) IM).1;dsimp only at uj uK;have LK:=aK uj;have LL:=aK uK;have LM:=iG uK;have sH:(ok.set ai .gone)[os.length+1]?=some (.var (gC m ai (os.length+3) D [])):=by rw[fD AT];exact uj
   have pP:=aK sH;have LN:=iG sH;have dm:=hL.step kQ ef (by simp only[bm,iT,or_false,forall_eq_or_imp,forall_eq];omega) [.tree 1 (rowsOf aV m.cls),.tree 4 (rowsOf aG m.ae),.tree 4 (rowsOf df m.aC),Oi m.rules,.ref (ok.length+1) 1 0 (D.length+1),.ref (os.length+3) 1 0 0] (rowsOf cA (D++[(oi,xs.length)])) (.arr 1 [[.ref oi 2 0 xs.length]]);have LP:gC m (ok.length+1) (os.length+3) (D++[(oi,xs.length)]) []=[.tree 1 (rowsOf aV m.cls),.tree 4 (rowsOf aG m.ae),.tree 4 (rowsOf df m.aC),Oi m.rules,.ref (ok.length+1) 1 0 (D.length+1),.ref (os.length+3) 1 0 0]:=by simp[gC]
   have hb3:=(aR.1 (hL.base (os.length+3,.arr 1 (rowsOf cA [])) IM).1).1;have j5:=(aR.1 uK).1;dsimp only at hb3;((repeat'(first|refine Va X0 ?_|(refine Xi ?_ ?_<;>try intro ht)|exact Xx|fail)))
   refine bQ _ _ rfl ?_;clear bO bQ dL;repeat(refine Xu ?_)
   refine Va (X5 @uj @uK @LK @LL (X5 @LM @pP @LN @gC.eq_1 (X5 @G5 @bH @bz.{0} @bL.{0} @bw.{0}))) ?_;refine ak _ (i+1,_,ok.length+1,D++[(oi,xs.length)]) ⟨NZ,N0,by dsimp only;rw[eM,<- cO,LP];exact dm,((a7.set AT).set AT).app _,NZ,NZ⟩ NZ ?_;exact Xv X0
 rw[cZ (by unfold S0;rw[fF];omega)]at hL;have Cd:=(hL.base (os.length,.var (aq m)) IM).1;dsimp only at Cd;((repeat'(first|refine Va @Cd ?_|(refine Xi ?_ ?_<;>try intro ht)|exact Xx|fail)))
 refine au _ _ rfl ?_;clear ak au Ql;repeat(refine Xu ?_)
 refine Va @Cd ?_;have Vx:LO a6 [(os.length+1,.var (gC m ai (os.length+3) D [])),(os.length+3,.arr 1 (rowsOf cA [])),(os.length,.var (aq m)),(ai,.arr 1 (rowsOf cA D))] [] D ((T0 m).take 0) (S0 m) ob:=hL.swap.sub (by simp only[bm,iT,or_false];intro b hb;rcases hb with rfl|rfl|rfl|rfl<;>simp);refine bb (λz:Nat×List Ob×Nat×List (Nat×Nat)=>(⟨ao [(1,.ptr os.length 0 0),(3,.ptr (os.length+1) 0 0),(63,.tree 4 (rowsOf aG m.ae)),(64,Oi m.ae.length),(65,Oi z.1)],z.2.1⟩:St))
  (λz=>z.1<=m.ae.length/\z.2.2.2.length=z.1/\LO a6 [(os.length+1,.var (gC m ai z.2.2.1 D z.2.2.2)),(z.2.2.1,.arr 1 (rowsOf cA z.2.2.2)),(os.length,.var (aq m)),(ai,.arr 1 (rowsOf cA D))] z.2.2.2 D ((T0 m).take z.1) (S0 m) z.2.1/\gB os z.2.1/\os.length+1<z.2.2.1/\ai≠z.2.2.1)
  (λz=>m.ae.length-z.1) (0,ob,os.length+3,[]) ⟨aW _,rfl,Vx,a7,NZ,LF⟩ (Xv X0) ?_
 clear hL Vx a7 Cd hi ar LF ob;rintro⟨i,ob,bi,E⟩⟨hi,hE,hL,a7,ep,eX⟩Ql ak au;dsimp only at hi hE hL a7 ep eX ⊢;by_cases ar:i<m.ae.length
 ·have dp:=jG hm.pr _ (aE (d:=default) ar);have nk:=Ce dp hm;have ke:=GU dp;have eM:(T0 m).take (i+1)=(T0 m).take i++[dq (m.ae.getD i default).aB]:=by
   rw[ei (by unfold T0;rw[fF];exact ar)];unfold T0;rw[gR _ _ _ ar]
  generalize cB:m.ae.getD i default=p at *;((repeat'(first|refine Va (X3 @cB @bH @aG.eq_1) ?_|(refine Xi ?_ ?_<;>try intro ht)|exact Xx|fail)))
  have hvl:(dq p.aB).length=p.aB.length:=by unfold dq;simp
  refine bb (λz:Nat×List Ob×Nat×List Nm=>(⟨ao [(1,.ptr os.length 0 0),(3,.ptr (os.length+1) 0 0),(63,.tree 4 (rowsOf aG m.ae)),(64,Oi m.ae.length),(65,Oi i),(14,.ref z.2.2.1 2 0 z.2.2.2.length),(70,.tree 1 (ints p.aB)),(71,Oi p.aB.length),(72,Oi z.1)],z.2.1⟩:St))
   (λz=>z.1<=p.aB.length/\LO a6 [(os.length+1,.var (gC m ai bi D E)),(bi,.arr 1 (rowsOf cA E)),(os.length,.var (aq m)),(ai,.arr 1 (rowsOf cA D))] E D ((T0 m).take i) (S0 m) z.2.1/\gB os z.2.1/\z.2.1[z.2.2.1]?=some (.arr 2 (rowsOf a6 z.2.2.2))/\z.2.2.1 ∉ List.map (λq:Nat×Nat=>q.1) (E++D)/\os.length<=z.2.2.1/\z.2.2.2=(dq p.aB).take z.1)
   (λz=>p.aB.length-z.1) (0,(ob++[.var (aG p)])++[.arr 2 []],(ob++[Ob.var (aG p)]).length,[]) ⟨aW _,(hL.app _).app _,(a7.app _).app _,ka _ _ _,(hL.app [.var (aG p)]).fresh (aX _),by simp;have:=a7.len;omega,rfl⟩ ?_ ?_
  ·refine aF.trans (aF.nil 14 2 (by simp only[Kc,simprocAttr]) IP) ?_;exact Xv X0
  clear hL a7;rintro⟨k,ok,oi,xs⟩⟨hk,hL,a7,kQ,ef,oP,cO⟩dL bO bQ;dsimp only at hk hL a7 kQ ef oP cO ⊢;by_cases bf:k<p.aB.length
  ·have Gx:(dq p.aB).getD k default=ew (p.aB.getD k 0):=by
    unfold dq;rw[gR _ _ _ bf];rfl
   have Cc:=ei (l:=dq p.aB) (k:=k) AT;rw[Gx,<- cO]at Cc;have uJ:xs.length=k:=by rw[cO,fe];omega
   have hs:=ke _ (aE (d:=0) bf);unfold bJ at hs;generalize vM:p.aB.getD k 0=s at *;have LH:=LI s;have eoi:=aK kQ;have LJ:=iG kQ;have nM:=(aR.1 kQ).1;((repeat'(first|refine Vc (X5 @vM @kQ @eoi @LJ (X5 @a6.eq_1 @ew.eq_1 @bH @bz.{0} (X3 @bL.{0} @bw.{0} @LD))) LH ?_|(refine Xi ?_ ?_<;>try intro ht)|exact Xx|fail)))
   have lW:=(hL.G8 (y:=.gone) ef kQ).app [.arr 2 [a6 (ew s)],.arr 2 (rowsOf a6 (xs++[ew s]))];refine bO _ (k+1,ok.set oi .gone++[.arr 2 [a6 (ew s)],.arr 2 (rowsOf a6 (xs++[ew s]))],ok.length+1,xs++[ew s]) ⟨NZ,lW,(a7.set oP).app _,oI _ _ _ _ _,(hL.G8 (y:=.gone) ef kQ).fresh (by dsimp only;rw[bw];omega),by dsimp only;have:=a7.len;omega,Cc.symm⟩ NZ ?_;exact Xv (X2 @a6.eq_1 @ew.eq_1)
  ·rw[cZ AT]at cO;have uj:=(hL.base (os.length+1,.var (gC m ai bi D E)) IM).1;have uK:=(hL.base (bi,.arr 1 (rowsOf cA E)) IM).1;have ha3:=(aR.1 (hL.base (ai,.arr 1 (rowsOf cA D)) IM).1).1;dsimp only at uj uK ha3;have LK:=aK uj;have LL:=aK uK;have LM:=iG uK;have sH:(ok.set bi .gone)[os.length+1]?=some (.var (gC m ai bi D E)):=by rw[fD AT];exact uj
   have pP:=aK sH;have LN:=iG sH;have dm:=hL.step kQ ef (by simp only[bm,iT,or_false,forall_eq_or_imp,forall_eq];omega) [.tree 1 (rowsOf aV m.cls),.tree 4 (rowsOf aG m.ae),.tree 4 (rowsOf df m.aC),Oi m.rules,.ref ai 1 0 D.length,.ref (ok.length+1) 1 0 (E.length+1)] (rowsOf cA (E++[(oi,xs.length)])) (.arr 1 [[.ref oi 2 0 xs.length]]);have LP:gC m ai (ok.length+1) D (E++[(oi,xs.length)])=[.tree 1 (rowsOf aV m.cls),.tree 4 (rowsOf aG m.ae),.tree 4 (rowsOf df m.aC),Oi m.rules,.ref ai 1 0 D.length,.ref (ok.length+1) 1 0 (E.length+1)]:=by simp[gC]
   have j5:=(aR.1 uK).1;((repeat'(first|refine Va X0 ?_|(refine Xi ?_ ?_<;>try intro ht)|exact Xx|fail)))
   refine bQ _ _ rfl ?_;clear bO bQ dL;repeat(refine Xu ?_)
   refine Va (X5 @uj @uK @LK @LL (X5 @LM @pP @LN @gC.eq_1 (X5 @G5 @bH @bz.{0} @bL.{0} @bw.{0}))) ?_;refine ak _ (i+1,_,ok.length+1,E++[(oi,xs.length)]) ⟨NZ,N0,by dsimp only;rw[eM,<- cO,LP];exact dm,((a7.set AT).set AT).app _,NZ,NZ⟩ NZ ?_;exact Xv X0
 rw[cZ (by unfold T0;rw[fF];omega)]at hL;((repeat'(first|refine Va X0 ?_|(refine Xi ?_ ?_<;>try intro ht)|exact Xx|fail)))
 refine au _ _ rfl ?_;clear ak au Ql;repeat(refine Xu ?_)
 refine Vb X0 ?_;unfold kJ;simp only[gm,fW];simp(disch:=omega)only[Ac,↓Pc,simprocAttr];refine⟨.ptr (os.length+1) 0 0,ob,⟨os.length+1,ai,bi,D,E,rfl,hL.swap.sub ?_,a7⟩,dX rfl a7.len rfl⟩;simp only[bm,iT,or_false];intro b hb;rcases hb with rfl|rfl|rfl<;>simp
def Vy(xs:List Nm)(q:Nm):rowsOf a6 xs++[[AV.lit (.int .i64 q.1),.lit (.bool q.2)]]=rowsOf a6 (xs++[q]):=by simp[rowsOf,a6]
def agN{m:ah}(hm:VM m){gi ai bi:Nat}{D E:List (Nat×Nat)}{S T:List (List Nm)}{os:List Ob}(h:LO a6 (GB m gi ai bi D E) D E S T os)(hg:LG m lk (S,T)){left:List (List Bool)}(hf:cp m left):
  dy Tryz.prog 81 [.ptr gi 0 0,.tree 1 (rowsOf ay left)] os λr ob=>r=Oi (kk m left (S,T))/\os.length<=ob.length:=by
 obtain⟨fg,fa,fb⟩:=z7 h;have eg:=aK fg;have ea:=aK fa;have eb:=aK fb;have hD:=h.rD.len;have hE:=h.rE.len;have jx:S.length=m.cls.length:=hg.s;have D7:T.length=m.ae.length:=hg.t;have qV:=hm.cls;have oO:=hm.ae;have Ho:=hm.aC;have gK:=hf.1;rw[afh];refine dy.aN 80 os.length [.tmp 4] Tryz.func81 ?_;refine Vb (X3 @fg @fa @gC.eq_1) ?_;have Hp:D.length=m.cls.length:=AT;refine bb (λz:Nat×List Ob×Nat×List Nm=>(⟨ao [(0,.ptr gi 0 0),(1,.tree 1 (rowsOf ay left)),(5,.ref z.2.2.1 2 0 z.2.2.2.length),(17,Oi m.cls.length),(18,Oi z.1)],z.2.1⟩:St))
  (λz=>z.1<=m.cls.length/\gB os z.2.1/\z.2.1[z.2.2.1]?=some (.arr 2 (rowsOf a6 z.2.2.2))/\os.length<=z.2.2.1/\z.2.2.2=(PC left S z.1).map vA)
  (λz=>m.cls.length-z.1) (0,os++[.arr 2 []],os.length,[]) ⟨aW _,(gB.refl _).app _,ka _ _ _,aX _,rfl⟩ ?_ ?_
 ·refine aF.trans (aF.nil 5 2 (by simp only[Kc,simprocAttr]) IP) ?_;exact Xv @Hp
 rintro⟨i,ob,ti,ps⟩⟨hi,a7,eJ,ke,fk⟩Ql ak au;dsimp only at hi a7 eJ ke fk ⊢;have eG:ps.length=i:=by rw[fk,fF,BO]
 by_cases ar:i<m.cls.length
 ·have lR:=agO hm (h.dN a7) hg hf i ar;have dm:(PC left S (i+1)).map vA=ps++[tg (jI (S.getD i default) (left.getD i default))]:=by
   rw[show PC left S (i+1)=PC left S i++[cI (S.getD i default) (left.getD i default) (0,false)] from yn _ i,dH,<- fk,SR];rfl
  have Cf:=Vz (jI (S.getD i default) (left.getD i default)) (by have:=KU (S.getD i default) (left.getD i default);have:=hg.sl i ar;have:=hm.opt _ (aE (d:=default) ar);dsimp only at *;omega);generalize jI (S.getD i default) (left.getD i default)=LQ at *;generalize tg LQ=q at *;repeat'(first|((fail_if_success (first|refine eO 5 ?_|refine eP 5 ?_));refine Xr X0 ?_;intro K hK)|(refine hK _ ?_;clear hK K)|(refine Xi ?_ ?_<;>try intro ht)|refine Xy ?_|exact Xx|fail)
  refine ox 4 IP _ rfl ?_;intro K hK;simp(disch:=omega)only[Ac,↓Pc,simprocAttr,ja,eV];refine⟨rfl,(show kK Tryz.prog 115 [.ptr gi 0 0,Oi i,.tree 1 (rowsOf ay left)] (some 25) _ _ from ?_)⟩;refine qW lR ?_;rintro r xj⟨cE,id,rfl,b9⟩;refine⟨cE.len,?_⟩;have Af:=cE _ _ eJ;have LS:=aK Af;have LU:=iG Af;have ed:=(a7.trans cE).len;simp(disch:=omega)only[Ac,↓Pc,simprocAttr,eV];refine rj [] Cf IM trivial ⟨bT.fz b9 (by rw[cr]) IM,trivial⟩ rfl IM ?_;simp(disch:=omega)only[Ac,↓Pc,simprocAttr,Af,LS,LU,a6,Vy,bH,bz,bL,bw];repeat'(first|with_reducible refine cQ ?_ ?_|omega)
  refine hK _ ?_;clear hK K;repeat(refine Xu ?_)
  refine Va X0 ?_;refine ak _ (i+1,xj.set ti .gone++[.arr 2 [a6 q],.arr 2 (rowsOf a6 (ps++[q]))],xj.length+1,ps++[q]) ⟨NZ,((a7.trans cE).set ke).app _,oI _ _ _ _ _,NZ,dm.symm⟩ NZ ?_;exact Xv @a6.eq_1
 have Hq:i=m.cls.length:=AT;rw[Hq]at fk;have kg:=a7 _ _ fg;have kb:=a7 _ _ fb;have agP:E.length=m.ae.length:=AT;((repeat'(first|refine Va X0 ?_|(refine Xi ?_ ?_<;>try intro ht)|exact Xx|fail)))
 refine au _ _ rfl ?_;clear ak au Ql;repeat(refine Xu ?_)
 refine Va (X3 @kg @kb @gC.eq_1) ?_;refine bb (λz:Nat×List Ob×Nat×List Nm=>(⟨ao [(0,.ptr gi 0 0),(1,.tree 1 (rowsOf ay left)),(5,.ref z.2.2.1 2 0 z.2.2.2.length),(34,Oi m.ae.length),(35,Oi z.1)],z.2.1⟩:St))
  (λz=>z.1<=m.ae.length/\gB os z.2.1/\z.2.1[z.2.2.1]?=some (.arr 2 (rowsOf a6 z.2.2.2))/\os.length<=z.2.2.1/\z.2.2.2=(PC left S m.cls.length++PP m left T z.1).map vA)
  (λz=>m.ae.length-z.1) (0,ob,ti,ps) ⟨aW _,a7,eJ,ke,by rw[fk];simp[PP]⟩ (Xv @agP) ?_
 clear a7 eJ ke fk eG Hq kg kb hi ar ti ps;rintro⟨i,ob,ti,ps⟩⟨hi,a7,eJ,ke,fk⟩Ql ak au;dsimp only at hi a7 eJ ke fk ⊢;have eG:ps.length=m.cls.length+i:=by rw[fk,fF,bL,BO,DM]
 by_cases ar:i<m.ae.length
 ·have lR:=agQ hm (h.dN a7) hg hf i ar;have dm:(PC left S m.cls.length++PP m left T (i+1)).map vA=ps++[tg (jI (T.getD i default) (gr m left i))]:=by
   rw[show PP m left T (i+1)=PP m left T i++[cI (T.getD i default) (gr m left i) (0,false)] from yn _ i,<- bz,dH,<- fk,SR];rfl
  have Cf:=Vz (jI (T.getD i default) (gr m left i)) (by have:=KU (T.getD i default) (gr m left i);have:=hg.tl i ar;have:=Ce (jG hm.pr _ (aE (d:=default) ar)) hm;dsimp only at *;omega);generalize jI (T.getD i default) (gr m left i)=LQ at *;generalize tg LQ=q at *;repeat'(first|((fail_if_success (first|refine eO 10 ?_|refine eP 10 ?_));refine Xr X0 ?_;intro K hK)|(refine hK _ ?_;clear hK K)|(refine Xi ?_ ?_<;>try intro ht)|refine Xy ?_|exact Xx|fail)
  refine ox 4 IP _ rfl ?_;intro K hK;simp(disch:=omega)only[Ac,↓Pc,simprocAttr,ja,eV];refine⟨rfl,(show kK Tryz.prog 116 [.ptr gi 0 0,Oi i,.tree 1 (rowsOf ay left)] (some 42) _ _ from ?_)⟩;refine qW lR ?_;rintro r xj⟨cE,id,rfl,b9⟩;refine⟨cE.len,?_⟩;have Af:=cE _ _ eJ;have LS:=aK Af;have LU:=iG Af;have ed:=(a7.trans cE).len;simp(disch:=omega)only[Ac,↓Pc,simprocAttr,eV];refine rj [] Cf IM trivial ⟨bT.fz b9 (by rw[cr]) IM,trivial⟩ rfl IM ?_;simp(disch:=omega)only[Ac,↓Pc,simprocAttr,Af,LS,LU,a6,Vy,bH,bz,bL,bw];repeat'(first|with_reducible refine cQ ?_ ?_|omega)
  refine hK _ ?_;clear hK K;repeat(refine Xu ?_)
  refine Va X0 ?_;refine ak _ (i+1,xj.set ti .gone++[.arr 2 [a6 q],.arr 2 (rowsOf a6 (ps++[q]))],xj.length+1,ps++[q]) ⟨NZ,((a7.trans cE).set ke).app _,oI _ _ _ _ _,NZ,dm.symm⟩ NZ ?_;exact Xv @a6.eq_1
 have Hs:i=m.ae.length:=AT;rw[Hs]at fk;have kg:=a7 _ _ fg;((repeat'(first|refine Va X0 ?_|(refine Xi ?_ ?_<;>try intro ht)|exact Xx|fail)))
 refine au _ _ rfl ?_;clear ak au Ql;repeat(refine Xu ?_)
 refine Va (X2 @kg @gC.eq_1) ?_;refine bb (λz:Nat×List Ob×Nat×List Nm=>(⟨ao [(1,.tree 1 (rowsOf ay left)),(5,.ref z.2.2.1 2 0 z.2.2.2.length),(51,.tree 4 (rowsOf df m.aC)),(52,Oi m.aC.length),(53,Oi z.1)],z.2.1⟩:St))
  (λz=>z.1<=m.aC.length/\gB os z.2.1/\z.2.1[z.2.2.1]?=some (.arr 2 (rowsOf a6 z.2.2.2))/\os.length<=z.2.2.1/\z.2.2.2=(PC left S m.cls.length++PP m left T m.ae.length++PK m left z.1).map vA)
  (λz=>m.aC.length-z.1) (0,ob,ti,ps) ⟨aW _,a7,eJ,ke,by rw[fk];simp[PK]⟩ (Xv X0) ?_
 clear a7 eJ ke fk eG Hs kg hi ar ti ps;rintro⟨i,ob,ti,ps⟩⟨hi,a7,eJ,ke,fk⟩Ql ak au;dsimp only at hi a7 eJ ke fk ⊢;have eG:ps.length=m.cls.length+m.ae.length+i:=by rw[fk,fF,bL,bL,BO,DM,GW]
 by_cases ar:i<m.aC.length
 ·have jk:=aE (d:=default) ar;obtain⟨q1,q2,q3,q4⟩:=LV hm hf jk;have h1:=agR (m.aC.getD i default) left left.length (aX _) q1 AT (λr hr=>by have:=hf.row hm r hr;omega) AT q2 q3;have h2:=LI (im left (m.aC.getD i default));have dm:(PC left S m.cls.length++PP m left T m.ae.length++PK m left (i+1)).map vA=ps++[ew (im left (m.aC.getD i default))]:=by
   rw[show PK m left (i+1)=PK m left i++[(im left (m.aC.getD i default),!(decide ((m.aC.getD i default).cf=1099511627776)&&decide (0<im left (m.aC.getD i default))))] from yn _ i,<- bz,dH,<- fk];congr 1;simp only[List.map_cons,ns,vA,ew,Bool.not_not];rw[afi hm gK jk (λx hx=>(q1 x hx).2)]
  have rS:=aK eJ;have D9:=iG eJ;have nk:=(aR.1 eJ).1;have ed:=a7.len;generalize im left (m.aC.getD i default)=v at *;generalize bc:m.aC.getD i default=c at *;((repeat'(first|refine Vc (X5 @eJ @rS @D9 @bc (X5 @df.eq_1 @a6.eq_1 @ew.eq_1 @LD (X4 @bH @bz.{0} @bL.{0} @bw.{0}))) (X2 h1 h2) ?_|(refine Xi ?_ ?_<;>try intro ht)|exact Xx|fail)))
  refine ak _ (i+1,ob.set ti .gone++[.var (df c),.arr 2 [a6 (ew v)],.arr 2 (rowsOf a6 (ps++[ew v]))],ob.length+2,ps++[ew v]) ⟨NZ,(a7.set ke).app _,oI _ _ _ _ _,NZ,dm.symm⟩ NZ ?_;exact Xv (X3 @a6.eq_1 @ew.eq_1 @df.eq_1)
 have LW:i=m.aC.length:=AT;rw[LW]at fk eG;rw[show PC left S m.cls.length++PP m left T m.ae.length++PK m left m.aC.length=w7 m left (S,T) from rfl]at fk;have Ht:(w7 m left (S,T)).length=m.cls.length+m.ae.length+m.aC.length:=by unfold w7;rw[bL,bL,BO,DM,GW]
 have VA:∀ p∈w7 m left (S,T),-lk<=p.1/\p.1<=lk:=λp hp=>by
  unfold w7 at hp;rw[cT,cT]at hp;rcases hp with(hp|hp)|hp
  ·exact KR (by unfold lk;decide) hg.sb _ p hp
  ·exact KS (by unfold lk;decide) hg.tb _ p hp
  ·have:=KT hm _ p hp;unfold lk;omega
 generalize w7 m left (S,T)=P at *;((repeat'(first|refine Va X0 ?_|(refine Xi ?_ ?_<;>try intro ht)|exact Xx|fail)))
 refine au _ _ rfl ?_;clear ak au Ql;repeat(refine Xu ?_)
 refine Va @eJ ?_;refine bb (λz:Nat×List Ob=>(⟨ao [(10,Oi (bK (P.take z.1) (0,false)).1),(65,.ref ti 2 0 ps.length),(66,Oi ps.length),(67,Oi z.1)],z.2⟩:St))
  (λz=>z.1<=P.length/\gB os z.2/\z.2[ti]?=some (.arr 2 (rowsOf a6 ps))/\(bK (P.take z.1) (0,false)).2=false)
  (λz=>P.length-z.1) (0,ob) ⟨aW _,a7,eJ,rfl⟩ (Xv (X3 @lZ.{0} @bK.eq_1 @zd.{0,0})) ?_
 clear a7 eJ;rintro⟨j,ob⟩⟨hj,a7,eJ,Hu⟩Ql ak au;dsimp only at hj a7 eJ Hu ⊢;have ed:=a7.len;have amK:ps.length=P.length:=by rw[fk,fF]
 by_cases fJ:j<P.length
 ·have gV:=ei fJ;have er:=BH (P.take j) (P.getD j default) (0,false);rw[<- gV,Hu,Bool.false_or]at er;have zF:ps.getD j default=vA (P.getD j default):=by rw[fk,gR _ _ _ fJ]
  have jE:=yw (P.take j) (0,false) (λp hp=>VA p (q8 hp));rw[fe,wm hj]at jE;have VB:=VA _ (aE (d:=default) fJ);have agS:=aE (l:=P) (d:=default) fJ;unfold lk at jE VB;dsimp only at jE;generalize (bK (P.take j) (0,false)).1=s at *;generalize P.getD j default=q at *;obtain⟨v,b⟩:=q;unfold vA at zF;dsimp only at zF er VB;have rS:=aK eJ;cases b
  ·have w5:(bK P (0,false)).2=true:=(SU P 0).2 ⟨_,agS,rfl⟩;((repeat'(first|refine Va (X5 @eJ @rS @zF @a6.eq_1 (X2 @bH @mH)) ?_|(refine Xi ?_ ?_<;>try intro ht)|exact Xx|fail)))
   repeat(refine Xu ?_)
   ((skip))
   unfold kJ;simp only[gm,fW];simp(disch:=omega)only[Ac,↓Pc,simprocAttr];rw[if_pos w5];exact⟨_,_,⟨rfl,by rw[bL];omega⟩,dX rfl (by rw[bL];omega) rfl⟩
  ·((repeat'(first|refine Va (X5 @eJ @rS @zF @a6.eq_1 (X2 @bH @Bool.not_true)) ?_|(refine Xi ?_ ?_<;>try intro ht)|exact Xx|fail)))
   refine ak _ (j+1,_) ⟨NZ,a7.app [.var (a6 (v,false))],rS _,by rw[er];rfl⟩ NZ ?_;simp only[er];exact Xv @a6.eq_1
 ·rw[cZ AT]at Hu;have agT:¬ (bK P (0,false)).2=true:=by rw[Hu];simp
  ((repeat'(first|refine Va (cZ (show P.length<=j by omega)) ?_|(refine Xi ?_ ?_<;>try intro ht)|exact Xx|fail)))
  refine au _ _ rfl ?_;clear ak au Ql;repeat(refine Xu ?_)
  refine Vb X0 ?_;unfold kJ;simp only[gm,fW];simp(disch:=omega)only[Ac,↓Pc,simprocAttr];rw[if_neg agT];exact⟨_,ob,⟨rfl,ed⟩,dX rfl ed rfl⟩
def LG.mono{m:ah}{B C:Int}{g:Lg}(h:LG m B g)(hc:B<=C):LG m C g:=⟨h.s,h.t,h.sl,h.tl,λr hr=>(h.sb r hr).mono hc,λr hr=>(h.tb r hr).mono hc⟩
def U0(m:ah)(left:List (List Bool))(l:List Mv)(hm:VM m)(hf:cp m left)(hl:l.length<9223372036854775808):Holds Tryz.prog 42 [.agg (aq m),.tree 1 (rowsOf ay left),.tree 4 (rowsOf aP l)] [] (.bu [Oi (fZ m left l).1,Oi (fZ m left l).2]) []:=by
 generalize an:fZ m left l=res;unfold fZ at an;refine Holds.aN 33 0 [.tmp 6,.tmp 7] Tryz.func42 ?_;by_cases hlen:2000<l.length
 ·rw[if_pos hlen]at an;subst an;((repeat'(first|refine Vb X0 ?_|(refine Xi ?_ ?_<;>try intro ht)|exact Xx|fail)))
  all_goals exact aU rfl rfl
 rw[if_neg hlen]at an;repeat'(first|((fail_if_success (first|refine eO 3 ?_|refine eP 3 ?_));refine Xr X0 ?_;intro K hK)|(refine hK _ ?_;clear hK K)|(refine Xi ?_ ?_<;>try intro ht)|refine XY ?_|exact Xx|fail)
 refine ox 1 IP _ rfl ?_;intro K hK;simp(disch:=omega)only[Ac,↓Pc,simprocAttr,ja,eV];refine⟨rfl,(show kK Tryz.prog 78 [.agg (aq m)] (some 15) _ _ from ?_)⟩;refine qW (agH hm [.var (aq m)]) ?_;rintro r os⟨gi,ai,bi,D,E,rfl,iI,a7⟩;refine⟨a7.len,?_⟩;have f0:=a7 0 _ rfl;simp(disch:=omega)only[Ac,↓Pc,simprocAttr,eV];refine hK _ ?_;clear hK K;repeat(refine Xu ?_)
 refine Va X0 ?_;refine bb (λz:Nat×List Ob=>(⟨ao [(1,.tree 1 (rowsOf ay left)),(8,.ptr gi 0 0),(16,.tree 4 (rowsOf aP l)),(17,Oi l.length),(18,Oi z.1)],z.2⟩:St))
  (λz=>z.1<=l.length/\LO a6 (GB m gi ai bi D E) D E (iF m (l.take z.1) (S0 m,T0 m)).1 (iF m (l.take z.1) (S0 m,T0 m)).2 z.2/\∀ x∈l.take z.1,il m x=true)
  (λz=>l.length-z.1) (0,os) ⟨aW _,iI,IM⟩ (Xv X0) ?_
 clear iI a7 f0;rintro⟨i,ob⟩⟨hi,iI,eT⟩Ql ak au;dsimp only at hi iI eT ⊢;have kl:=(GK hm (l.take i) eT);rw[fe,wm hi]at kl;by_cases ar:i<l.length
 ·have eM:iF m (l.take (i+1)) (S0 m,T0 m)=jF m (l.getD i default) (iF m (l.take i) (S0 m,T0 m)):=by rw[ei ar,SN]
  have gV:=ei ar;have cq:=aE (d:=default) ar;generalize iF m (l.take i) (S0 m,T0 m)=g at *;generalize cS:l.getD i default=x at *;have hval:=agU hm (iI.app [.var (aP x)]) kl x;have amL:ob.length<(ob++[Ob.var (aP x)]).length:=IM;have hvx:(ob++[Ob.var (aP x)])[ob.length]?=some (.var (aP x)):=ka _ _ _;repeat'(first|((fail_if_success (first|refine eO 7 ?_|refine eP 7 ?_));refine Xr (X3 @cS @aP.eq_1 @bH) ?_;intro K hK)|(refine hK _ ?_;clear hK K)|(refine Xi ?_ ?_<;>try intro ht)|refine Xy ?_|refine Xd ?_ ?_|exact Xx|fail)
  refine ox 2 IP _ rfl ?_;intro K hK;simp(disch:=omega)only[Ac,↓Pc,simprocAttr,ja,eV,bH];refine⟨rfl,(show kK Tryz.prog 79 [.ptr gi 0 0,.agg (aP x)] (some 24) _ _ from ?_)⟩;refine qW hval ?_;rintro r xj⟨rfl,lx,rfl⟩;refine⟨IM,?_⟩;simp(disch:=omega)only[Ac,↓Pc,simprocAttr,eV];refine hK _ ?_;clear hK K;repeat(refine Xu ?_)
  by_cases hx:il m x=true
  ·rw[hx];have oC:=agW hm (iI.app (.var (aP x)::lx)) (B:=1099511627776+268435456*25*i) AT kl x hx;have evx:=aK hvx;repeat'(first|(refine Xi ?_ ?_<;>try intro ht)|refine Xy ?_|exact Xx|fail)
   refine ox 2 IP _ rfl ?_;intro K hK;simp(disch:=omega)only[Ac,↓Pc,simprocAttr,ja,eV,bH,aP,bz];refine⟨rfl,(show kK Tryz.prog 80 [.ptr gi 0 0,.agg (aP x)] (some 28) _ _ from ?_)⟩;refine qW oC ?_;rintro r jV⟨rfl,lX,jl⟩;refine⟨jl,?_⟩;simp(disch:=omega)only[Ac,↓Pc,simprocAttr,eV];refine hK _ ?_;clear hK K;repeat(refine Xu ?_)
   refine Va X0 ?_;refine ak _ (i+1,jV) ⟨NZ,by rw[eM];exact lX,λy hy=>by
    dsimp only at hy;rw[gV]at hy;rcases cT.1 hy with hy|hy
    ·exact eT y hy
    ·simp only[c8]at hy;subst hy;exact hx⟩ NZ ?_
   exact Xv X0
  ·have bW:il m x=false:=by simpa using hx
   rw[bW];rw[if_pos (by rw[List.all_eq_false];exact⟨x,cq,hx⟩)]at an;((repeat'(first|refine Va @mH ?_|(refine Xi ?_ ?_<;>try intro ht)|exact Xx|fail)))
   repeat(refine Xu ?_)
   refine Vb X0 ?_;exact aU rfl (by rw[<- an])
 ·rw[cZ AT]at iI kl eT;rw[if_neg (by rw[Bool.not_eq_false];exact List.all_eq_true.2 eT)]at an;generalize iF m l (S0 m,T0 m)=g at *;obtain⟨g1,g2⟩:=g;dsimp only at iI;have hval:=agN hm iI (kl.mono (by unfold lk;omega)) hf;((repeat'(first|refine Va X0 ?_|(refine Xi ?_ ?_<;>try intro ht)|exact Xx|fail)))
  refine au _ _ rfl ?_;clear ak au Ql;repeat(refine Xu ?_)
  refine Xy ?_;refine ox 2 IP _ rfl ?_;intro K hK;simp(disch:=omega)only[Ac,↓Pc,simprocAttr,ja,eV];refine⟨rfl,(show kK Tryz.prog 81 [.ptr gi 0 0,.tree 1 (rowsOf ay left)] (some 32) _ _ from ?_)⟩;refine qW hval ?_;rintro r jV⟨rfl,jl⟩;refine⟨jl,?_⟩;simp(disch:=omega)only[Ac,↓Pc,simprocAttr,eV];refine hK _ ?_;clear hK K;repeat(refine Xu ?_)
  subst an;refine Vb X0 ?_;exact aU rfl rfl
def VC(m:ah)(left:List (List Bool))(l:List Mv)(hm:MB m)(hb:BB left)(hl:l.length<9223372036854775808):Holds Tryz.prog 17 [.agg (aq m),.tree 1 (rowsOf ay left),.tree 4 (rowsOf aP l)] [] (.bu [Oi (b6 m left l).1,Oi (b6 m left l).2]) []:=by
 have h1:=agX m left hm hb;generalize an:b6 m left l=res;unfold b6 at an;refine Holds.aN 21 0 [.tmp 6,.tmp 7] Tryz.func17 ?_;by_cases hs:jH m left=0
 ·obtain⟨hv,hf⟩:=K4 hs;rw[if_neg (by rw[hs];simp)]at an;rw[hs]at h1;have h2:=U0 m left l hv hf hl;generalize fZ m left l=v at *;subst an;((try revert hK K);(repeat'(first|refine Vd @bne_self_eq_false.{0} (X2 h1 h2) ?_|(refine V2 @bne_self_eq_false.{0} ?_ ?_<;>try with_reducible intro hb)|(refine Xi ?_ ?_<;>try intro ht)|refine VD ?_ ?_|exact Xx|fail))<;>try with_reducible intro K hK)
  all_goals try(exfalso;omega)
  all_goals exact aU rfl rfl
 ·rw[if_pos hs]at an;generalize jH m left=e at *;subst an;((try revert hK K);(repeat'(first|refine Vd X0 h1 ?_|(refine V2 X0 ?_ ?_<;>try with_reducible intro hb)|(refine Xi ?_ ?_<;>try intro ht)|refine VD ?_ ?_|exact Xx|fail))<;>try with_reducible intro K hK)
  all_goals try(exfalso;omega)
  all_goals exact aU rfl rfl
def Hv:IntKind.u64.min=0:=rfl
def Hw:IntKind.u64.max=18446744073709551615:=rfl
def agY:IntKind.u64.bits=64:=rfl
def p32:(2:Int)^(32:Nat)=4294967296:=rfl
def VE{n:Int}(h:0<=n/\n<=18446744073709551615):IntKind.u64.wrap n=n:=wG h
def ag0{n:Int}(h : -9223372036854775808<=n/\n<=9223372036854775807):IntKind.i64.wrap n=n:=wG h
def ag1{a:Int}(h:0<=a/\a<=18446744073709551615):Bm .u64 a 4294967295=a%4294967296:=by
 unfold Bm;have e:(BitVec.ofInt IntKind.u64.bits a &&& BitVec.ofInt IntKind.u64.bits 4294967295).toNat=a.toNat%4294967296:=by
  rw[BitVec.toNat_and,BitVec.toNat_ofInt,BitVec.toNat_ofInt];have h1:(a%((2^IntKind.u64.bits:Nat):Int)).toNat=a.toNat:=by rw[Int.emod_eq_of_lt h.1 (by show a<18446744073709551616;omega)]
  have h2:((4294967295:Int)%((2^IntKind.u64.bits:Nat):Int)).toNat=2^32-1:=IP;rw[h1,h2,Nat.and_two_pow_sub_one_eq_mod]
 rw[e];rw[wG (by simp only[Hv,Hw];omega)];omega
def unI:Tryz.prog.underlying 3=some (.int .i64):=by kernel_rfl
def unU:Tryz.prog.underlying 174=some (.int .u64):=by kernel_rfl
def ag4(y:Int)(hy:0<=y/\y<=9223372036854775807):Holds Tryz.prog 146 [.lit (.int .u64 1),.lit (.int .u64 y)] [] (.bu [.lit (.int .u64 0),.lit (.int .u64 y)]) []:=by
 refine Holds.aN 51 0 [.tmp 4,.tmp 5] Tryz.func146 ?_;refine Vb (X5 @Hv @Hw @agY @p32 (X4 @ag1 @VE @Int.one_mul @Int.zero_mul)) ?_;refine aU rfl ?_;congr 3;all_goals first|rfl|(congr 2;omega)
def ag5(y:Int)(hy:0<=y/\y<=9223372036854775807):Holds Tryz.prog 118 [.lit (.int .u64 1),.lit (.int .u64 y)] [] (.bu [.lit (.int .u64 0),.lit (.int .u64 y)]) []:=by
 refine Holds.aN 30 0 [.tmp 4,.tmp 5] Tryz.func118 ?_;((repeat'(first|refine Vd (X2 @Hv @Hw) (ag4 y hy) ?_|(refine Xi ?_ ?_<;>try intro ht)|exact Xx|fail)))
 exact aU rfl rfl
def lr(b:Bool):List AV:=[.lit (.bool b)]
instance:Row lr 1:=⟨λ_=>rfl,λb v hv=>by
 simp only[lr,c8]at hv;subst hv;exact .inl ⟨_,rfl,rfl⟩⟩
def VF(xs:List Bool):rowsOf lr xs=a8 xs:=by simp[rowsOf,lr,a8]
def rT(n i:Nat)(s:Bool):List Bool:=aO i s++aO (n-i) false
def ag6{n i j:Nat}{s:Bool}(h:j<=i):(rowsOf lr (rT n i s)).take j=rowsOf lr (aO j s):=by
 unfold rT rowsOf;rw[<- E3,List.take_append_of_le_length N0,List.take_replicate,wm h]
def ag7{n i j:Nat}{s:Bool}(h:i+j<=n)(hj:j<=i):rowsOf lr (aO i s)++ja j (rowsOf lr (aO i s))++eV (i+j) (rowsOf lr (rT n i s))=rowsOf lr (rT n (i+j) s):=by
 unfold rT rowsOf;rw[<- E3,<- List.map_drop,<- dH,<- dH,List.take_replicate,wm hj,List.drop_append,List.drop_eq_nil_of_le IM,List.drop_replicate,gv,List.replicate_append_replicate];congr 3;simp;omega
def ag8{n i:Nat}{s:Bool}(h:i<=n):(rT n i s).length=n:=by simp[rT];omega
def VG(s:Bool)(n:Nat)(hn:n<=1048576):Holds Tryz.prog 84 [.tree 1 [lr s],Oi (n:Nat)] [] (.ref 0 1 0 n) [.arr 1 (rowsOf lr (aO n s))]:=by
 have hm:=ag5 n AT;refine Holds.aN 48 0 [.tmp 4] Tryz.func84 ?_;((repeat'(first|refine Vc (X5 @Hv @Hw @unI @unU (X4 @VE @ag0 @Option.isSome_some.{0} @QU)) hm ?_|(refine Xi ?_ ?_<;>try intro ht)|exact Xx|fail)))
 have e0:ja (min 1 n) [lr s]++eV (min 1 n) (aO n [AV.lit (Value.bool false)])=rowsOf lr (rT n (min 1 n) s):=by
  unfold rT rowsOf;rw[List.drop_replicate];rcases Nat.eq_zero_or_pos n with h|h
  ·subst h;rfl
  ·rw[wm h,dH,Ow,Ow];rfl
 have e0':ja (min 1 n) [lr s]++eV (min 1 n) (a8 (aO n false))=rowsOf lr (rT n (min 1 n) s):=by
  rw[<- e0];simp[a8]
 first|rw[e0]|rw[e0']
 refine bb (λi:Nat=>(⟨ao [(7,.ref 0 1 0 n),(8,Oi i)],[.arr 1 (rowsOf lr (rT n i s))]⟩:St)) (λi=>i<=n/\(i=0->n=0)) (λi=>n-i) (min 1 n) ⟨AT,AT⟩ (Xv X0) ?_;rintro i⟨hi,hr⟩Ql ak au;by_cases ar:i<n
 ·have e1:i+min i (n-i)<=n:=AT;have hl:=ag8 (s:=s) hi;have Hx:=λn s=>ag6 (n:=n) (s:=s) (aX i);((repeat'(first|refine Va (X5 @Option.map_none.{0,0} @List.drop_zero.{0} @Hx @cr (X3 @List.length_replicate.{0} @J' @hl)) ?_|(refine Xi ?_ ?_<;>try intro ht)|exact Xx|fail)))
  rw[ag7 e1 (Nat.min_le_left _ _)];exact ak _ (i+min i (n-i)) ⟨AT,AT⟩ AT (Xv X0)
 ·obtain rfl:i=n:=AT;((repeat'(first|refine Va X0 ?_|(refine Xi ?_ ?_<;>try intro ht)|exact Xx|fail)))
  refine au _ _ rfl ?_;clear ak au Ql;repeat(refine Xu ?_)
  refine Vb X0 ?_;have e2:rT i i s=aO i s:=by simp[rT]
  rw[e2];exact Xw false [0] X0
def cu(m:ah):List (List Bool):=m.cls.map λl=>aO l.length true
def cg(m:ah):List (List Bool):=if iB m=0 then cu m else []
def Hy(xs:List (List Bool))(b:List Bool):rowsOf ay xs++[[AV.tree 1 (a8 b)]]=rowsOf ay (xs++[b]):=by simp[rowsOf,ay]
def Vl(m:ah)(hm:MB m):Holds Tryz.prog 51 [.agg (aq m)] [] (.tree 1 (rowsOf ay (cg m))) []:=by
 have h1:=D5 m hm;have tz:=hm.cls;generalize an:cg m=res;unfold cg at an;refine Holds.aN 25 0 [.tmp 2] Tryz.func51 ?_;by_cases hv:iB m=0;rotate_left
 ·rw[if_neg hv]at an;rw[<- an];generalize iB m=e at *;((repeat'(first|refine Vd X0 h1 ?_|(refine Xi ?_ ?_<;>try intro ht)|exact Xx|fail)))
  exact u9 [] true IP trivial IP IP bT.nil
 rw[if_pos hv]at an;rw[hv]at h1;have bG:=jD.1 hv;have mY:=bG.cls;((repeat'(first|refine Vd @bne_self_eq_false.{0} h1 ?_|(refine Xi ?_ ?_<;>try intro ht)|exact Xx|fail)))
 refine bb (λz:Nat×List (List Bool)=>(⟨ao [(1,.ptr 0 0 0),(3,.ref 1 1 0 z.2.length),(10,.tree 1 (rowsOf aV m.cls)),(11,Oi m.cls.length),(12,Oi z.1)],[.var (aq m),.arr 1 (rowsOf ay z.2)]⟩:St))
  (λz=>z.1<=m.cls.length/\z.2=(cu m).take z.1) (λz=>m.cls.length-z.1) (0,[]) ⟨aW _,rfl⟩ ?_ ?_
 ·refine aF.trans (aF.nil 3 1 (by simp only[Kc,simprocAttr]) IP) ?_;exact Xv X0
 rintro⟨i,xs⟩⟨hi,cO⟩Ql ak au;dsimp only at hi cO ⊢;have j5:(cu m).length=m.cls.length:=by simp[cu]
 by_cases ar:i<m.cls.length
 ·have uJ:xs.length=i:=by rw[cO,fe];omega
  have eM:(cu m).take (i+1)=xs++[aO (m.cls.getD i default).length true]:=by
   rw[ei AT,<- cO];unfold cu;rw[gR _ _ _ ar]
  have qD:=bG.opt _ (aE (d:=default) ar);generalize bc:m.cls.getD i default=c at *;have Ea:=VG true c.length AT;repeat'(first|((fail_if_success (first|refine eO 7 ?_|refine eP 7 ?_));refine Xr (X2 @bc @aV.eq_1) ?_;intro K hK)|(refine hK _ ?_;clear hK K)|(refine Xi ?_ ?_<;>try intro ht)|refine Xy ?_|refine Xd ?_ ?_|exact Xx|fail)
  refine Hz 5 IP ?_;intro K K1 hK uL;simp(disch:=omega)only[Ac,↓Pc,simprocAttr,ja];refine rj [] Ea IP trivial ⟨bT.fz (rows:=rowsOf lr [true]) rfl rfl IM,.pure rfl,trivial⟩ rfl (by simp[A4,lr,rowsOf,flat]) ?_;simp(disch:=omega)only[Ac,↓Pc,simprocAttr];refine uL _ ⟨ao [(1,.ptr 0 0 0),(3,.ref 1 1 0 xs.length),(10,.tree 1 (rowsOf aV m.cls)),(11,Oi m.cls.length),(12,Oi i),(16,.ref 1 1 0 xs.length),(20,.tree 1 (a8 (aO c.length true)))],[.var (aq m),.arr 1 (rowsOf ay xs)]⟩ ?_ ?_
  ·rw[<- VF];exact Xs true [0,1] X0
  clear uL K1;simp(disch:=omega)only[Ac,↓Pc,simprocAttr,eV,Hy];repeat'(first|with_reducible refine cQ ?_ ?_|omega)
  refine hK _ ?_;clear hK K;repeat(refine Xu ?_)
  refine Va X0 ?_;refine ak _ (i+1,xs++[aO c.length true]) ⟨NZ,eM.symm⟩ NZ ?_;exact Xs false [0,3] X0
 ·rw[cZ AT]at cO;((repeat'(first|refine Va X0 ?_|(refine Xi ?_ ?_<;>try intro ht)|exact Xx|fail)))
  refine au _ _ rfl ?_;clear ak au Ql;repeat(refine Xu ?_)
  refine Vb X0 ?_;rw[cO,an];exact Xw true [] X0
end T

