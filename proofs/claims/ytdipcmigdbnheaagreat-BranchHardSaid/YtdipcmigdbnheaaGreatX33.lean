import Derived.Test.YtdipcmigdbnheaaGreatX30
import Derived.Test.YtdipcmigdbnheaaGreatX15
import Derived.Test.YtdipcmigdbnheaaGreatX17
set_option linter.unusedVariables false
set_option linter.unusedSimpArgs false
set_option linter.unnecessarySimpa false
set_option linter.unusedSectionVars false
set_option maxHeartbeats 64000000
set_option maxRecDepth 20000
open List renaming append_assoc→cI,length_append→bJ,cons_append→dG,nil_append→dK,set_cons_succ→sw,set_cons_zero→pA,length_cons→dH,length_nil→nJ,take_zero→lx,mem_cons→bZ,not_mem_nil→kC,length_map→dU,length_take→ez,take_of_length_le→dC,getElem?_eq_some_iff→aS,length_set→bm,getElem?_set_ne→bu
open Nat renaming zero_add→eR,zero_le→aD,le_refl→aH
open Go Go.Am Go.Proofs
open Nat (reduceEqDiff reduceAdd reduceLeDiff reduceMul)
open Int (reduceNeg reduceLE reduceToNat)
namespace T
theorem VV (xs:List Nm) (n:Int):rowsOf bw xs++[[AV.lit (.int .i64 n),.lit (.bool (decide (1099511627776≤n)))]]=rowsOf bw (xs++[fI n]):=by simp[rowsOf,bw,fI]
theorem aeh {m:ah} (hm:VM m) (os:List Ob):fF Tryz.prog 132 [.agg (ar m)] os fun r ob=>∃ gi ai bi D E,r=.ptr gi 0 0∧LO bw (GB m gi ai bi D E) D E (S0 m) (T0 m) ob∧gb os ob:=by
  have JM:=hm.cls
  have xU:=hm.ae
  refine fF.aF (fn:=Tryz.f132) 94 os.length [.tmp 2] Tryz.func132 rfl rfl rfl rfl rfl (by simp) ?_
  refine Vb (X3 @cZ @cI.{0} @bJ.{0}) ?_
  have VW:(os++[Ob.var (ar m),Ob.var (ar m++[.lit (.slice none 0 0),.lit (.slice none 0 0)])])[os.length+1]?=some (.var (ar m++[.lit (.slice none 0 0),.lit (.slice none 0 0)])):=by rw[me];rfl
  refine cA (aA.ma (os.length+1) 4 1 VW rfl (by decide)) ?_
  simp only[cI,dG,dK,EC,sw,pA,bJ,dH,nJ,ar,eR,Nat.reduceAdd]
  clear VW
  refine cA (aA.ma (os.length+1) 5 1 (by rw[me];rfl) rfl (by decide)) ?_
  simp only[cI,dG,dK,EC,sw,pA,bJ,dH,nJ,eR,Nat.reduceAdd]
  have qZ:LO bw [(os.length+1,.var (gC m (os.length+2) (os.length+3) [] [])),(os.length+2,.arr 1 (rowsOf cG [])),(os.length,.var (ar m)),(os.length+3,.arr 1 (rowsOf cG []))] [] [] ((S0 m).take 0) [] (os++[.var (ar m),.var (gC m (os.length+2) (os.length+3) [] []),.arr 1 [],.arr 1 []]):=by
    refine⟨fun b hb=>?_,by rw[lx];exact RI.nil,RI.nil,by simp⟩
    simp only[bZ,kC,or_false] at hb
    rcases hb with rfl | rfl | rfl | rfl
    · exact⟨by rw[me];rfl,by simp⟩
    · exact⟨by rw[me];rfl,by simp⟩
    · exact⟨by rw[jO],by simp⟩
    · exact⟨by rw[me];rfl,by simp⟩
  refine aI (fun z:Nat × List Ob × Nat × List (Nat × Nat)=>(⟨av [(1,.ptr os.length 0 0),(3,.ptr (os.length+1) 0 0),(21,.tree 1 (rowsOf bn m.cls)),(22,.lit (.int .i64 m.cls.length)),(23,.lit (.int .i64 z.1))],z.2.1⟩:St))
    (fun z=>z.1≤m.cls.length∧z.2.2.2.length=z.1∧LO bw [(os.length+1,.var (gC m z.2.2.1 (os.length+3) z.2.2.2 [])),(z.2.2.1,.arr 1 (rowsOf cG z.2.2.2)),(os.length,.var (ar m)),(os.length+3,.arr 1 (rowsOf cG []))] z.2.2.2 [] ((S0 m).take z.1) [] z.2.1∧gb os z.2.1∧os.length+1<z.2.2.1∧z.2.2.1≠os.length+3)
    (fun z=>m.cls.length - z.1) (0,os++[.var (ar m),.var (gC m (os.length+2) (os.length+3) [] []),.arr 1 [],.arr 1 []],os.length+2,[]) ⟨aD _,rfl,qZ,(gb.refl os).app _,by dsimp only;omega,by dsimp only;omega⟩ (Xv X0) ?_
  clear qZ
  rintro ⟨i,ob,ai,D⟩ ⟨hi,hD,hL,bU,Bi,JN⟩ Ql ak aq
  dsimp only at hi hD hL bU Bi JN ⊢
  by_cases hi':i<m.cls.length
  · have fY:=az (d:=default) hi'
    have qG:=hm.opt _ fY
    have cS:(S0 m).take (i+1)=(S0 m).take i++[dm (fP (m.cls.getD i default))]:=by
      rw[eu (by unfold S0;rw[dU];exact hi')]
      unfold S0;rw[iu _ _ _ hi']
    have gJ:=fun o ho=>hm.nu _ fY o ho
    have CP:=fun o ho=>U' hm fY (o:=o) ho
    generalize aO:m.cls.getD i default=c at *
    ((repeat' (first|refine Va (X2 @aO @bn.eq_1) ?_|(refine Xi ?_ ?_<;>try intro ht)|exact Xx|fail)))
    have oY:(dm (fP c)).length=c.length:=by unfold dm fP;simp
    refine aI (fun z:Nat × List Ob × Nat × List Nm=>(⟨av [(1,.ptr os.length 0 0),(3,.ptr (os.length+1) 0 0),(21,.tree 1 (rowsOf bn m.cls)),(22,.lit (.int .i64 m.cls.length)),(23,.lit (.int .i64 i)),(6,.ref z.2.2.1 2 0 z.2.2.2.length),(27,.tree 6 (rowsOf bX c)),(28,.lit (.int .i64 c.length)),(29,.lit (.int .i64 z.1))],z.2.1⟩:St))
      (fun z=>z.1≤c.length∧LO bw [(os.length+1,.var (gC m ai (os.length+3) D [])),(ai,.arr 1 (rowsOf cG D)),(os.length,.var (ar m)),(os.length+3,.arr 1 (rowsOf cG []))] D [] ((S0 m).take i) [] z.2.1∧gb os z.2.1∧z.2.1[z.2.2.1]?=some (.arr 2 (rowsOf bw z.2.2.2))∧z.2.2.1 ∉ List.map (fun q:Nat × Nat=>q.1) (D++[])∧os.length≤z.2.2.1∧z.2.2.2=(dm (fP c)).take z.1)
      (fun z=>c.length - z.1) (0,ob++[.arr 2 []],ob.length,[]) ⟨aD _,hL.app _,bU.app _,jO _ _ _,hL.fresh (aH _),bU.len,rfl⟩ ?_ ?_
    · refine aA.trans (aA.nil 6 2 (by simp only[Kc,simprocAttr]) (by decide)) ?_
      exact Xv X0
    clear hL bU
    rintro ⟨k,ok,oi,xs⟩ ⟨hk,hL,bU,kz,dE,uM,cF⟩ cP a5 a8
    dsimp only at hk hL bU kz dE uM cF ⊢
    by_cases aP:k<c.length
    · have eh:=az (l:=c) (d:=default) aP
      have VX:=EA (gJ _ eh)
      have ahD:=CP _ eh
      have Ci:(dm (fP c)).getD k default=fI (od (c.getD k default)):=by
        unfold dm fP;rw[List.map_map,iu _ _ _ aP];rfl
      have Af:=eu (l:=dm (fP c)) (k:=k) (by omega)
      rw[Ci,← cF] at Af
      have uy:xs.length=k:=by rw[cF,ez];omega
      generalize jV:c.getD k default=o at *
      ((repeat' (first|refine Va (X3 @jV @cZ @bX.eq_1) ?_|(refine Xi ?_ ?_<;>try intro ht)|exact Xx|fail)))
      refine aI (fun z:Nat × List Ob=>(⟨av [(1,.ptr os.length 0 0),(3,.ptr (os.length+1) 0 0),(21,.tree 1 (rowsOf bn m.cls)),(22,.lit (.int .i64 m.cls.length)),(23,.lit (.int .i64 i)),(6,.ref oi 2 0 xs.length),(27,.tree 6 (rowsOf bX c)),(28,.lit (.int .i64 c.length)),(29,.lit (.int .i64 k)),(9,.lit (.int .i64 (((o.ch.take z.1).map (·.2)).foldl dQ 0))),(34,.tree 2 (rowsOf aG o.ch)),(35,.lit (.int .i64 o.ch.length)),(36,.lit (.int .i64 z.1))],z.2⟩:St))
        (fun z=>z.1≤o.ch.length∧LO bw [(os.length+1,.var (gC m ai (os.length+3) D [])),(ai,.arr 1 (rowsOf cG D)),(os.length,.var (ar m)),(os.length+3,.arr 1 (rowsOf cG []))] D [] ((S0 m).take i) [] z.2∧gb os z.2∧z.2[oi]?=some (.arr 2 (rowsOf bw xs)))
        (fun z=>o.ch.length - z.1) (0,ok++[.var (bX o)]) ⟨aD _,hL.app _,bU.app _,a7 kz _⟩ (Xv (X4 @lx.{0} @List.map_nil.{0,0} @List.foldl_nil.{0,0} @bX.eq_1)) ?_
      clear hL bU kz
      rintro ⟨q,oq⟩ ⟨hq,hL,bU,kz⟩ lH fl eX
      dsimp only at hq hL bU kz ⊢
      have hs:=BI ((o.ch.take q).map (·.2)) 0 (fun x hx=>by
        obtain ⟨c,jA,rfl⟩:=List.mem_map.1 hx;exact VX c (List.mem_of_mem_take jA)) (by unfold bP;decide)
      by_cases E4:q<o.ch.length
      · have aei:=VX _ (az (d:=default) E4)
        have dP:=Ie o.ch q E4
        generalize ((o.ch.take q).map (·.2)).foldl dQ 0=s at *
        have qU:=ab4 s (o.ch.getD q default).2 hs aei
        generalize pe:o.ch.getD q default=y at *
        ((repeat' (first|refine Vc (X3 @pe @cZ @aG.eq_1) qU ?_|(refine Xi ?_ ?_<;>try intro ht)|exact Xx|fail)))
        refine fl _ (q+1,oq++[.var (aG y)]) ⟨by dsimp only;omega,hL.app _,bU.app _,a7 kz _⟩ (by dsimp only;omega) ?_
        simp only[dP]
        exact Xv @aG.eq_1
      · have lg:((o.ch.take q).map (·.2)).foldl dQ 0=od o:=by rw[dC (by omega)];rfl
        rw[lg] at hs
        rw[← lg] at Af
        generalize ((o.ch.take q).map (·.2)).foldl dQ 0=s at *
        have JO:=VA s
        have eoi:=a7 kz
        have JP:=fj kz
        have jh:=(aS.1 kz).1
        ((repeat' (first|refine Va X0 ?_|(refine Xi ?_ ?_<;>try intro ht)|exact Xx|fail)))
        refine eX _ _ rfl ?_
        clear fl eX lH
        repeat (refine Xu ?_)
        refine Vc (X5 @kz @eoi @JP @bw.eq_1 (X5 @fI.eq_1 @cZ @cI.{0} @bJ.{0} (X2 @bm.{0} @VV))) JO ?_
        have sg:=(hL.EG (y:=.gone) dE kz).app [.arr 2 [bw (fI s)],.arr 2 (rowsOf bw (xs++[fI s]))]
        refine a5 _ (k+1,oq.set oi .gone++[.arr 2 [bw (fI s)],.arr 2 (rowsOf bw (xs++[fI s]))],oq.length+1,xs++[fI s]) ⟨by dsimp only;omega,sg,(bU.set uM).app _,xG _ _ _ _ _,(hL.EG (y:=.gone) dE kz).fresh (by dsimp only;rw[bm];omega),by dsimp only;have:=bU.len;omega,Af.symm⟩ (by dsimp only;omega) ?_
        exact Xv (X2 @bw.eq_1 @fI.eq_1)
    · rw[dC (by omega)] at cF
      have ni:=(hL.base (os.length+1,.var (gC m ai (os.length+3) D [])) (by simp)).1
      have si:=(hL.base (ai,.arr 1 (rowsOf cG D)) (by simp)).1
      dsimp only at ni si
      have JQ:=a7 ni
      have JR:=a7 si
      have JS:=fj si
      have sI:(ok.set ai .gone)[os.length+1]?=some (.var (gC m ai (os.length+3) D [])):=by rw[bu (by omega)];exact ni
      have qY:=a7 sI
      have JT:=fj sI
      have dP:=hL.step kz dE (by simp only[bZ,kC,or_false,forall_eq_or_imp,forall_eq];omega) [.tree 1 (rowsOf bn m.cls),.tree 4 (rowsOf aV m.ae),.tree 4 (rowsOf aU m.au),.lit (.int .i64 m.rules),.ref (ok.length+1) 1 0 (D.length+1),.ref (os.length+3) 1 0 0] (rowsOf cG (D++[(oi,xs.length)])) (.arr 1 [[.ref oi 2 0 xs.length]])
      have JU:gC m (ok.length+1) (os.length+3) (D++[(oi,xs.length)]) []=[.tree 1 (rowsOf bn m.cls),.tree 4 (rowsOf aV m.ae),.tree 4 (rowsOf aU m.au),.lit (.int .i64 m.rules),.ref (ok.length+1) 1 0 (D.length+1),.ref (os.length+3) 1 0 0]:=by simp[gC]
      have Ag:=(aS.1 (hL.base (os.length+3,.arr 1 (rowsOf cG [])) (by simp)).1).1
      have ik:=(aS.1 si).1
      dsimp only at Ag
      ((repeat' (first|refine Va X0 ?_|(refine Xi ?_ ?_<;>try intro ht)|exact Xx|fail)))
      refine a8 _ _ rfl ?_
      clear a5 a8 cP
      repeat (refine Xu ?_)
      refine Va (X5 @ni @si @JQ @JR (X5 @JS @qY @JT @gC.eq_1 (X5 @EE @cZ @cI.{0} @bJ.{0} @bm.{0}))) ?_
      refine ak _ (i+1,_,ok.length+1,D++[(oi,xs.length)]) ⟨by dsimp only;omega,by simp;omega,by dsimp only;rw[cS,← cF,JU];exact dP,((bU.set (by omega)).set (by omega)).app _,by dsimp only;omega,by dsimp only;omega⟩ (by dsimp only;omega) ?_
      exact Xv X0
  rw[dC (by unfold S0;rw[dU];omega)] at hL
  have rQ:=(hL.base (os.length,.var (ar m)) (by simp)).1
  dsimp only at rQ
  ((repeat' (first|refine Va @rQ ?_|(refine Xi ?_ ?_<;>try intro ht)|exact Xx|fail)))
  refine aq _ _ rfl ?_;clear ak aq Ql
  repeat (refine Xu ?_)
  refine Va @rQ ?_
  have VY:LO bw [(os.length+1,.var (gC m ai (os.length+3) D [])),(os.length+3,.arr 1 (rowsOf cG [])),(os.length,.var (ar m)),(ai,.arr 1 (rowsOf cG D))] [] D ((T0 m).take 0) (S0 m) ob:=hL.swap.sub (by simp only[bZ,kC,or_false];intro b hb;rcases hb with rfl | rfl | rfl | rfl<;>simp)
  refine aI (fun z:Nat × List Ob × Nat × List (Nat × Nat)=>(⟨av [(1,.ptr os.length 0 0),(3,.ptr (os.length+1) 0 0),(63,.tree 4 (rowsOf aV m.ae)),(64,.lit (.int .i64 m.ae.length)),(65,.lit (.int .i64 z.1))],z.2.1⟩:St))
    (fun z=>z.1≤m.ae.length∧z.2.2.2.length=z.1∧LO bw [(os.length+1,.var (gC m ai z.2.2.1 D z.2.2.2)),(z.2.2.1,.arr 1 (rowsOf cG z.2.2.2)),(os.length,.var (ar m)),(ai,.arr 1 (rowsOf cG D))] z.2.2.2 D ((T0 m).take z.1) (S0 m) z.2.1∧gb os z.2.1∧os.length+1<z.2.2.1∧ai≠z.2.2.1)
    (fun z=>m.ae.length - z.1) (0,ob,os.length+3,[]) ⟨aD _,rfl,VY,bU,by dsimp only;omega,JN⟩ (Xv X0) ?_
  clear hL VY bU rQ hi hi' JN ob
  rintro ⟨i,ob,bi,E⟩ ⟨hi,hE,hL,bU,fM,lp⟩ Ql ak aq
  dsimp only at hi hE hL bU fM lp ⊢
  by_cases hi':i<m.ae.length
  · have dJ:=jn hm.pr _ (az (d:=default) hi')
    have wi:=Cr dJ hm
    have jW:=EH dJ
    have cS:(T0 m).take (i+1)=(T0 m).take i++[dm (m.ae.getD i default).ax]:=by
      rw[eu (by unfold T0;rw[dU];exact hi')]
      unfold T0;rw[iu _ _ _ hi']
    generalize bT:m.ae.getD i default=p at *
    ((repeat' (first|refine Va (X3 @bT @cZ @aV.eq_1) ?_|(refine Xi ?_ ?_<;>try intro ht)|exact Xx|fail)))
    have oY:(dm p.ax).length=p.ax.length:=by unfold dm;simp
    refine aI (fun z:Nat × List Ob × Nat × List Nm=>(⟨av [(1,.ptr os.length 0 0),(3,.ptr (os.length+1) 0 0),(63,.tree 4 (rowsOf aV m.ae)),(64,.lit (.int .i64 m.ae.length)),(65,.lit (.int .i64 i)),(14,.ref z.2.2.1 2 0 z.2.2.2.length),(70,.tree 1 (ints p.ax)),(71,.lit (.int .i64 p.ax.length)),(72,.lit (.int .i64 z.1))],z.2.1⟩:St))
      (fun z=>z.1≤p.ax.length∧LO bw [(os.length+1,.var (gC m ai bi D E)),(bi,.arr 1 (rowsOf cG E)),(os.length,.var (ar m)),(ai,.arr 1 (rowsOf cG D))] E D ((T0 m).take i) (S0 m) z.2.1∧gb os z.2.1∧z.2.1[z.2.2.1]?=some (.arr 2 (rowsOf bw z.2.2.2))∧z.2.2.1 ∉ List.map (fun q:Nat × Nat=>q.1) (E++D)∧os.length≤z.2.2.1∧z.2.2.2=(dm p.ax).take z.1)
      (fun z=>p.ax.length - z.1) (0,(ob++[.var (aV p)])++[.arr 2 []],(ob++[Ob.var (aV p)]).length,[]) ⟨aD _,(hL.app _).app _,(bU.app _).app _,jO _ _ _,(hL.app [.var (aV p)]).fresh (aH _),by simp;have:=bU.len;omega,rfl⟩ ?_ ?_
    · refine aA.trans (aA.nil 14 2 (by simp only[Kc,simprocAttr]) (by decide)) ?_
      exact Xv X0
    clear hL bU
    rintro ⟨k,ok,oi,xs⟩ ⟨hk,hL,bU,kz,dE,uM,cF⟩ cP a5 a8
    dsimp only at hk hL bU kz dE uM cF ⊢
    by_cases aP:k<p.ax.length
    · have Ci:(dm p.ax).getD k default=fI (p.ax.getD k 0):=by
        unfold dm;rw[iu _ _ _ aP];rfl
      have Af:=eu (l:=dm p.ax) (k:=k) (by omega)
      rw[Ci,← cF] at Af
      have uy:xs.length=k:=by rw[cF,ez];omega
      have hs:=jW _ (az (d:=0) aP)
      unfold bP at hs
      generalize pe:p.ax.getD k 0=s at *
      have JO:=VA s
      have eoi:=a7 kz
      have JP:=fj kz
      have jh:=(aS.1 kz).1
      ((repeat' (first|refine Vc (X5 @pe @kz @eoi @JP (X5 @bw.eq_1 @fI.eq_1 @cZ @cI.{0} (X3 @bJ.{0} @bm.{0} @VV))) JO ?_|(refine Xi ?_ ?_<;>try intro ht)|exact Xx|fail)))
      have sg:=(hL.EG (y:=.gone) dE kz).app [.arr 2 [bw (fI s)],.arr 2 (rowsOf bw (xs++[fI s]))]
      refine a5 _ (k+1,ok.set oi .gone++[.arr 2 [bw (fI s)],.arr 2 (rowsOf bw (xs++[fI s]))],ok.length+1,xs++[fI s]) ⟨by dsimp only;omega,sg,(bU.set uM).app _,xG _ _ _ _ _,(hL.EG (y:=.gone) dE kz).fresh (by dsimp only;rw[bm];omega),by dsimp only;have:=bU.len;omega,Af.symm⟩ (by dsimp only;omega) ?_
      exact Xv (X2 @bw.eq_1 @fI.eq_1)
    · rw[dC (by omega)] at cF
      have ni:=(hL.base (os.length+1,.var (gC m ai bi D E)) (by simp)).1
      have si:=(hL.base (bi,.arr 1 (rowsOf cG E)) (by simp)).1
      have ha3:=(aS.1 (hL.base (ai,.arr 1 (rowsOf cG D)) (by simp)).1).1
      dsimp only at ni si ha3
      have JQ:=a7 ni
      have JR:=a7 si
      have JS:=fj si
      have sI:(ok.set bi .gone)[os.length+1]?=some (.var (gC m ai bi D E)):=by rw[bu (by omega)];exact ni
      have qY:=a7 sI
      have JT:=fj sI
      have dP:=hL.step kz dE (by simp only[bZ,kC,or_false,forall_eq_or_imp,forall_eq];omega) [.tree 1 (rowsOf bn m.cls),.tree 4 (rowsOf aV m.ae),.tree 4 (rowsOf aU m.au),.lit (.int .i64 m.rules),.ref ai 1 0 D.length,.ref (ok.length+1) 1 0 (E.length+1)] (rowsOf cG (E++[(oi,xs.length)])) (.arr 1 [[.ref oi 2 0 xs.length]])
      have JU:gC m ai (ok.length+1) D (E++[(oi,xs.length)])=[.tree 1 (rowsOf bn m.cls),.tree 4 (rowsOf aV m.ae),.tree 4 (rowsOf aU m.au),.lit (.int .i64 m.rules),.ref ai 1 0 D.length,.ref (ok.length+1) 1 0 (E.length+1)]:=by simp[gC]
      have ik:=(aS.1 si).1
      ((repeat' (first|refine Va X0 ?_|(refine Xi ?_ ?_<;>try intro ht)|exact Xx|fail)))
      refine a8 _ _ rfl ?_
      clear a5 a8 cP
      repeat (refine Xu ?_)
      refine Va (X5 @ni @si @JQ @JR (X5 @JS @qY @JT @gC.eq_1 (X5 @EE @cZ @cI.{0} @bJ.{0} @bm.{0}))) ?_
      refine ak _ (i+1,_,ok.length+1,E++[(oi,xs.length)]) ⟨by dsimp only;omega,by simp;omega,by dsimp only;rw[cS,← cF,JU];exact dP,((bU.set (by omega)).set (by omega)).app _,by dsimp only;omega,by dsimp only;omega⟩ (by dsimp only;omega) ?_
      exact Xv X0
  rw[dC (by unfold T0;rw[dU];omega)] at hL
  ((repeat' (first|refine Va X0 ?_|(refine Xi ?_ ?_<;>try intro ht)|exact Xx|fail)))
  refine aq _ _ rfl ?_;clear ak aq Ql
  repeat (refine Xu ?_)
  refine Vb X0 ?_
  unfold gH
  simp only[ei,ee]
  simp (disch:=omega) only[Ac,↓Pc,simprocAttr]
  refine⟨.ptr (os.length+1) 0 0,ob,⟨os.length+1,ai,bi,D,E,rfl,hL.swap.sub ?_,bU⟩,gR rfl bU.len rfl⟩
  simp only[bZ,kC,or_false];intro b hb;rcases hb with rfl | rfl | rfl<;>simp
theorem FG:IntKind.u64.min=0:=rfl
theorem FH:IntKind.u64.max=18446744073709551615:=rfl
theorem aek:IntKind.u64.bits=64:=rfl
theorem p32:(2:Int) ^ (32:Nat)=4294967296:=rfl
theorem aee {n:Int} (h:0≤n∧n≤18446744073709551615):IntKind.u64.wrap n=n:=vA h
theorem aef {n:Int} (h : -9223372036854775808≤n∧n≤9223372036854775807):IntKind.i64.wrap n=n:=vA h
theorem aem {a:Int} (h:0≤a∧a≤18446744073709551615):y9 .u64 a 4294967295=a % 4294967296:=by
  unfold y9
  have e:(BitVec.ofInt IntKind.u64.bits a &&& BitVec.ofInt IntKind.u64.bits 4294967295).toNat=a.toNat % 4294967296:=by
    rw[BitVec.toNat_and,BitVec.toNat_ofInt,BitVec.toNat_ofInt]
    have h1:(a % ((2 ^ IntKind.u64.bits:Nat):Int)).toNat=a.toNat:=by rw[Int.emod_eq_of_lt h.1 (by show a<18446744073709551616;omega)]
    have h2:((4294967295:Int) % ((2 ^ IntKind.u64.bits:Nat):Int)).toNat=2 ^ 32 - 1:=by decide
    rw[h1,h2,Nat.and_two_pow_sub_one_eq_mod]
  rw[e]
  rw[vA (by simp only[FG,FH];omega)]
  omega
theorem unI:Tryz.prog.underlying 3=some (.int .i64):=by kernel_rfl
theorem unU:Tryz.prog.underlying 238=some (.int .u64):=by kernel_rfl
theorem aen (y:Int) (hy:0≤y∧y≤9223372036854775807):ao Tryz.prog 199 [.lit (.int .u64 1),.lit (.int .u64 y)] [] (.bL [.lit (.int .u64 0),.lit (.int .u64 y)]) []:=by
  refine ao.aF (fn:=Tryz.f199) 51 0 [.tmp 4,.tmp 5] Tryz.func199 rfl rfl rfl rfl rfl (by simp) ?_
  refine Vb (X5 @FG @FH @aek @p32 (X3 @aem @Int.one_mul @Int.zero_mul)) ?_
  refine aC rfl ?_
  congr 3
  all_goals first|rfl|(congr 2;omega)
theorem aeb (y:Int) (hy:0≤y∧y≤9223372036854775807):ao Tryz.prog 184 [.lit (.int .u64 1),.lit (.int .u64 y)] [] (.bL [.lit (.int .u64 0),.lit (.int .u64 y)]) []:=by
  refine ao.aF (fn:=Tryz.f184) 30 0 [.tmp 4,.tmp 5] Tryz.func184 rfl rfl rfl rfl rfl (by simp) ?_
  ((repeat' (first|refine Vd (X2 @FG @FH) (aen y hy) ?_|(refine Xi ?_ ?_<;>try intro ht)|exact Xx|fail)))
  exact aC rfl rfl
end T

