import Derived.Test.YtdipcmigdbnheaaGreatX24
import Derived.Test.YtdipcmigdbnheaaGreatX14
set_option linter.unusedVariables false
set_option linter.unusedSimpArgs false
set_option linter.unnecessarySimpa false
set_option linter.unusedSectionVars false
set_option maxHeartbeats 64000000
set_option maxRecDepth 20000
open List renaming append_assoc→dj,length_append→bU,cons_append→fB,nil_append→fU,set_cons_succ→tj,set_cons_zero→mY,length_cons→dI,length_nil→pj,take_zero→lW,mem_cons→bW,not_mem_nil→lX,length_map→eD,length_take→eX,take_of_length_le→dN,getElem?_eq_some_iff→aY,length_set→bF,getElem?_set_ne→cz,append_nil→oe,length_singleton→xN
open Nat renaming zero_add→eK,zero_le→aH,le_refl→aV
open Bool renaming false_eq_true→iJ
open Go Go.Am Go.Proofs
open Nat (reduceEqDiff reduceAdd reduceLeDiff reduceMul)
open Int (reduceNeg reduceLE reduceToNat)
namespace T
theorem VO (xs:List Nm) (n:Int):rowsOf br xs++[[AV.lit (.int .i64 n),.lit (.bool (decide (1099511627776≤n)))]]=rowsOf br (xs++[fR n]):=by simp[rowsOf,br,fR]
theorem aen {m:ae} (hm:VM m) (os:List Ob):il Tryz.prog 132 [.agg (au m)] os fun r ob=>∃ gi ai bi D E,r=.ptr gi 0 0∧LO br (GB m gi ai bi D E) D E (S0 m) (T0 m) ob∧gu os ob:=by
  have J1:=hm.cls
  have Db:=hm.ah
  refine il.aD (fn:=Tryz.f132) 94 os.length [.tmp 2] Tryz.func132 rfl rfl rfl rfl rfl (by simp) ?_
  refine Vb (X3 @gQ @dj.{0} @bU.{0}) ?_
  have VP:(os++[Ob.var (au m),Ob.var (au m++[.lit (.slice none 0 0),.lit (.slice none 0 0)])])[os.length+1]?=some (.var (au m++[.lit (.slice none 0 0),.lit (.slice none 0 0)])):=by rw[n6];rfl
  refine dO (aQ.q7 (os.length+1) 4 1 VP rfl (by decide)) ?_
  simp only[dj,fB,fU,FC,tj,mY,bU,dI,pj,au,eK,Nat.reduceAdd]
  clear VP
  refine dO (aQ.q7 (os.length+1) 5 1 (by rw[n6];rfl) rfl (by decide)) ?_
  simp only[dj,fB,fU,FC,tj,mY,bU,dI,pj,eK,Nat.reduceAdd]
  have rH:LO br [(os.length+1,.var (gC m (os.length+2) (os.length+3) [] [])),(os.length+2,.arr 1 (rowsOf cG [])),(os.length,.var (au m)),(os.length+3,.arr 1 (rowsOf cG []))] [] [] ((S0 m).take 0) [] (os++[.var (au m),.var (gC m (os.length+2) (os.length+3) [] []),.arr 1 [],.arr 1 []]):=by
    refine⟨fun b hb=>?_,by rw[lW];exact RI.nil,RI.nil,by simp⟩
    simp only[bW,lX,or_false] at hb
    rcases hb with rfl | rfl | rfl | rfl
    · exact⟨by rw[n6];rfl,by simp⟩
    · exact⟨by rw[n6];rfl,by simp⟩
    · exact⟨by rw[hC],by simp⟩
    · exact⟨by rw[n6];rfl,by simp⟩
  refine aG (fun z:Nat × List Ob × Nat × List (Nat × Nat)=>(⟨aw [(1,.ptr os.length 0 0),(3,.ptr (os.length+1) 0 0),(21,.tree 1 (rowsOf bA m.cls)),(22,.lit (.int .i64 m.cls.length)),(23,.lit (.int .i64 z.1))],z.2.1⟩:St))
    (fun z=>z.1≤m.cls.length∧z.2.2.2.length=z.1∧LO br [(os.length+1,.var (gC m z.2.2.1 (os.length+3) z.2.2.2 [])),(z.2.2.1,.arr 1 (rowsOf cG z.2.2.2)),(os.length,.var (au m)),(os.length+3,.arr 1 (rowsOf cG []))] z.2.2.2 [] ((S0 m).take z.1) [] z.2.1∧gu os z.2.1∧os.length+1<z.2.2.1∧z.2.2.1≠os.length+3)
    (fun z=>m.cls.length - z.1) (0,os++[.var (au m),.var (gC m (os.length+2) (os.length+3) [] []),.arr 1 [],.arr 1 []],os.length+2,[]) ⟨aH _,rfl,rH,(gu.refl os).app _,by dsimp only;omega,by dsimp only;omega⟩ (Xv X0) ?_
  clear rH
  rintro ⟨i,ob,ai,D⟩ ⟨hi,hD,hL,bT,Cg,J2⟩ Ql ak aq
  dsimp only at hi hD hL bT Cg J2 ⊢
  by_cases ax:i<m.cls.length
  · have gJ:=az (d:=default) ax
    have sW:=hm.opt _ gJ
    have ef:(S0 m).take (i+1)=(S0 m).take i++[dt (gb (m.cls.getD i default))]:=by
      rw[eU (by unfold S0;rw[eD];exact ax)]
      unfold S0;rw[kH _ _ _ ax]
    have ej:=fun o ho=>hm.mf _ gJ o ho
    have aeo:=fun o ho=>VQ hm gJ (o:=o) ho
    generalize aJ:m.cls.getD i default=c at *
    ((repeat' (first|refine Va (X2 @aJ @bA.eq_1) ?_|(refine Xi ?_ ?_<;>try intro ht)|exact Xx|fail)))
    have pM:(dt (gb c)).length=c.length:=by unfold dt gb;simp
    refine aG (fun z:Nat × List Ob × Nat × List Nm=>(⟨aw [(1,.ptr os.length 0 0),(3,.ptr (os.length+1) 0 0),(21,.tree 1 (rowsOf bA m.cls)),(22,.lit (.int .i64 m.cls.length)),(23,.lit (.int .i64 i)),(6,.ref z.2.2.1 2 0 z.2.2.2.length),(27,.tree 6 (rowsOf dJ c)),(28,.lit (.int .i64 c.length)),(29,.lit (.int .i64 z.1))],z.2.1⟩:St))
      (fun z=>z.1≤c.length∧LO br [(os.length+1,.var (gC m ai (os.length+3) D [])),(ai,.arr 1 (rowsOf cG D)),(os.length,.var (au m)),(os.length+3,.arr 1 (rowsOf cG []))] D [] ((S0 m).take i) [] z.2.1∧gu os z.2.1∧z.2.1[z.2.2.1]?=some (.arr 2 (rowsOf br z.2.2.2))∧z.2.2.1 ∉ List.map (fun q:Nat × Nat=>q.1) (D++[])∧os.length≤z.2.2.1∧z.2.2.2=(dt (gb c)).take z.1)
      (fun z=>c.length - z.1) (0,ob++[.arr 2 []],ob.length,[]) ⟨aH _,hL.app _,bT.app _,hC _ _ _,hL.fresh (aV _),bT.len,rfl⟩ ?_ ?_
    · refine aQ.trans (aQ.nil 6 2 (by simp only[Kc,simprocAttr]) (by decide)) ?_
      exact Xv X0
    clear hL bT
    rintro ⟨k,ok,oi,xs⟩ ⟨hk,hL,bT,kQ,eE,vC,cl⟩ cR ba bd
    dsimp only at hk hL bT kQ eE vC cl ⊢
    by_cases aF:k<c.length
    · have fq:=az (l:=c) (d:=default) aF
      have VR:=FB (ej _ fq)
      have aiV:=aeo _ fq
      have Dc:(dt (gb c)).getD k default=fR (qo (c.getD k default)):=by
        unfold dt gb;rw[List.map_map,kH _ _ _ aF];rfl
      have A6:=eU (l:=dt (gb c)) (k:=k) (by omega)
      rw[Dc,← cl] at A6
      have sV:xs.length=k:=by rw[cl,eX];omega
      generalize lP:c.getD k default=o at *
      ((repeat' (first|refine Va (X3 @lP @gQ @dJ.eq_1) ?_|(refine Xi ?_ ?_<;>try intro ht)|exact Xx|fail)))
      refine aG (fun z:Nat × List Ob=>(⟨aw [(1,.ptr os.length 0 0),(3,.ptr (os.length+1) 0 0),(21,.tree 1 (rowsOf bA m.cls)),(22,.lit (.int .i64 m.cls.length)),(23,.lit (.int .i64 i)),(6,.ref oi 2 0 xs.length),(27,.tree 6 (rowsOf dJ c)),(28,.lit (.int .i64 c.length)),(29,.lit (.int .i64 k)),(9,.lit (.int .i64 (((o.ch.take z.1).map (·.2)).foldl cS 0))),(34,.tree 2 (rowsOf bP o.ch)),(35,.lit (.int .i64 o.ch.length)),(36,.lit (.int .i64 z.1))],z.2⟩:St))
        (fun z=>z.1≤o.ch.length∧LO br [(os.length+1,.var (gC m ai (os.length+3) D [])),(ai,.arr 1 (rowsOf cG D)),(os.length,.var (au m)),(os.length+3,.arr 1 (rowsOf cG []))] D [] ((S0 m).take i) [] z.2∧gu os z.2∧z.2[oi]?=some (.arr 2 (rowsOf br xs)))
        (fun z=>o.ch.length - z.1) (0,ok++[.var (dJ o)]) ⟨aH _,hL.app _,bT.app _,bz kQ _⟩ (Xv (X4 @lW.{0} @List.map_nil.{0,0} @List.foldl_nil.{0,0} @dJ.eq_1)) ?_
      clear hL bT kQ
      rintro ⟨q,oq⟩ ⟨hq,hL,bT,kQ⟩ mh eS eI
      dsimp only at hq hL bT kQ ⊢
      have hs:=CR ((o.ch.take q).map (·.2)) 0 (fun x hx=>by
        obtain ⟨c,kv,rfl⟩:=List.mem_map.1 hx;exact VR c (List.mem_of_mem_take kv)) (by unfold aS;decide)
      by_cases Ao:q<o.ch.length
      · have aep:=VR _ (az (d:=default) Ao)
        have dV:=Jx o.ch q Ao
        generalize ((o.ch.take q).map (·.2)).foldl cS 0=s at *
        have n9:=JX s (o.ch.getD q default).2 hs aep
        generalize pN:o.ch.getD q default=y at *
        ((repeat' (first|refine Vc (X3 @pN @gQ @bP.eq_1) n9 ?_|(refine Xi ?_ ?_<;>try intro ht)|exact Xx|fail)))
        refine eS _ (q+1,oq++[.var (bP y)]) ⟨by dsimp only;omega,hL.app _,bT.app _,bz kQ _⟩ (by dsimp only;omega) ?_
        simp only[dV]
        exact Xv @bP.eq_1
      · have kJ:((o.ch.take q).map (·.2)).foldl cS 0=qo o:=by rw[dN (by omega)];rfl
        rw[kJ] at hs
        rw[← kJ] at A6
        generalize ((o.ch.take q).map (·.2)).foldl cS 0=s at *
        have J3:=VS s
        have eoi:=bz kQ
        have J4:=ke kQ
        have fG:=(aY.1 kQ).1
        ((repeat' (first|refine Va X0 ?_|(refine Xi ?_ ?_<;>try intro ht)|exact Xx|fail)))
        refine eI _ _ rfl ?_
        clear eS eI mh
        repeat (refine Xu ?_)
        refine Vc (X5 @kQ @eoi @J4 @br.eq_1 (X5 @fR.eq_1 @gQ @dj.{0} @bU.{0} (X2 @bF.{0} @VO))) J3 ?_
        have sL:=(hL.FG (y:=.gone) eE kQ).app [.arr 2 [br (fR s)],.arr 2 (rowsOf br (xs++[fR s]))]
        refine ba _ (k+1,oq.set oi .gone++[.arr 2 [br (fR s)],.arr 2 (rowsOf br (xs++[fR s]))],oq.length+1,xs++[fR s]) ⟨by dsimp only;omega,sL,(bT.set vC).app _,yW _ _ _ _ _,(hL.FG (y:=.gone) eE kQ).fresh (by dsimp only;rw[bF];omega),by dsimp only;have:=bT.len;omega,A6.symm⟩ (by dsimp only;omega) ?_
        exact Xv (X2 @br.eq_1 @fR.eq_1)
    · rw[dN (by omega)] at cl
      have nR:=(hL.base (os.length+1,.var (gC m ai (os.length+3) D [])) (by simp)).1
      have qu:=(hL.base (ai,.arr 1 (rowsOf cG D)) (by simp)).1
      dsimp only at nR qu
      have J5:=bz nR
      have J6:=bz qu
      have J7:=ke qu
      have tE:(ok.set ai .gone)[os.length+1]?=some (.var (gC m ai (os.length+3) D [])):=by rw[cz (by omega)];exact nR
      have ri:=bz tE
      have J8:=ke tE
      have dV:=hL.step kQ eE (by simp only[bW,lX,or_false,forall_eq_or_imp,forall_eq];omega) [.tree 1 (rowsOf bA m.cls),.tree 4 (rowsOf bc m.ah),.tree 4 (rowsOf bu m.av),.lit (.int .i64 m.rules),.ref (ok.length+1) 1 0 (D.length+1),.ref (os.length+3) 1 0 0] (rowsOf cG (D++[(oi,xs.length)])) (.arr 1 [[.ref oi 2 0 xs.length]])
      have J9:gC m (ok.length+1) (os.length+3) (D++[(oi,xs.length)]) []=[.tree 1 (rowsOf bA m.cls),.tree 4 (rowsOf bc m.ah),.tree 4 (rowsOf bu m.av),.lit (.int .i64 m.rules),.ref (ok.length+1) 1 0 (D.length+1),.ref (os.length+3) 1 0 0]:=by simp[gC]
      have hb3:=(aY.1 (hL.base (os.length+3,.arr 1 (rowsOf cG [])) (by simp)).1).1
      have sm:=(aY.1 qu).1
      dsimp only at hb3
      ((repeat' (first|refine Va X0 ?_|(refine Xi ?_ ?_<;>try intro ht)|exact Xx|fail)))
      refine bd _ _ rfl ?_
      clear ba bd cR
      repeat (refine Xu ?_)
      refine Va (X5 @nR @qu @J5 @J6 (X5 @J7 @ri @J8 @gC.eq_1 (X5 @FE @gQ @dj.{0} @bU.{0} @bF.{0}))) ?_
      refine ak _ (i+1,_,ok.length+1,D++[(oi,xs.length)]) ⟨by dsimp only;omega,by simp;omega,by dsimp only;rw[ef,← cl,J9];exact dV,((bT.set (by omega)).set (by omega)).app _,by dsimp only;omega,by dsimp only;omega⟩ (by dsimp only;omega) ?_
      exact Xv X0
  rw[dN (by unfold S0;rw[eD];omega)] at hL
  have rI:=(hL.base (os.length,.var (au m)) (by simp)).1
  dsimp only at rI
  ((repeat' (first|refine Va @rI ?_|(refine Xi ?_ ?_<;>try intro ht)|exact Xx|fail)))
  refine aq _ _ rfl ?_;clear ak aq Ql
  repeat (refine Xu ?_)
  refine Va @rI ?_
  have VT:LO br [(os.length+1,.var (gC m ai (os.length+3) D [])),(os.length+3,.arr 1 (rowsOf cG [])),(os.length,.var (au m)),(ai,.arr 1 (rowsOf cG D))] [] D ((T0 m).take 0) (S0 m) ob:=hL.swap.sub (by simp only[bW,lX,or_false];intro b hb;rcases hb with rfl | rfl | rfl | rfl<;>simp)
  refine aG (fun z:Nat × List Ob × Nat × List (Nat × Nat)=>(⟨aw [(1,.ptr os.length 0 0),(3,.ptr (os.length+1) 0 0),(63,.tree 4 (rowsOf bc m.ah)),(64,.lit (.int .i64 m.ah.length)),(65,.lit (.int .i64 z.1))],z.2.1⟩:St))
    (fun z=>z.1≤m.ah.length∧z.2.2.2.length=z.1∧LO br [(os.length+1,.var (gC m ai z.2.2.1 D z.2.2.2)),(z.2.2.1,.arr 1 (rowsOf cG z.2.2.2)),(os.length,.var (au m)),(ai,.arr 1 (rowsOf cG D))] z.2.2.2 D ((T0 m).take z.1) (S0 m) z.2.1∧gu os z.2.1∧os.length+1<z.2.2.1∧ai≠z.2.2.1)
    (fun z=>m.ah.length - z.1) (0,ob,os.length+3,[]) ⟨aH _,rfl,VT,bT,by dsimp only;omega,J2⟩ (Xv X0) ?_
  clear hL VT bT rI hi ax J2 ob
  rintro ⟨i,ob,bi,E⟩ ⟨hi,hE,hL,bT,fX,gq⟩ Ql ak aq
  dsimp only at hi hE hL bT fX gq ⊢
  by_cases ax:i<m.ah.length
  · have ca:=fY hm.pr _ (az (d:=default) ax)
    have xj:=Dd ca hm
    have jC:=Ft ca
    have ef:(T0 m).take (i+1)=(T0 m).take i++[dt (m.ah.getD i default).aP]:=by
      rw[eU (by unfold T0;rw[eD];exact ax)]
      unfold T0;rw[kH _ _ _ ax]
    generalize bQ:m.ah.getD i default=p at *
    ((repeat' (first|refine Va (X3 @bQ @gQ @bc.eq_1) ?_|(refine Xi ?_ ?_<;>try intro ht)|exact Xx|fail)))
    have pM:(dt p.aP).length=p.aP.length:=by unfold dt;simp
    refine aG (fun z:Nat × List Ob × Nat × List Nm=>(⟨aw [(1,.ptr os.length 0 0),(3,.ptr (os.length+1) 0 0),(63,.tree 4 (rowsOf bc m.ah)),(64,.lit (.int .i64 m.ah.length)),(65,.lit (.int .i64 i)),(14,.ref z.2.2.1 2 0 z.2.2.2.length),(70,.tree 1 (ints p.aP)),(71,.lit (.int .i64 p.aP.length)),(72,.lit (.int .i64 z.1))],z.2.1⟩:St))
      (fun z=>z.1≤p.aP.length∧LO br [(os.length+1,.var (gC m ai bi D E)),(bi,.arr 1 (rowsOf cG E)),(os.length,.var (au m)),(ai,.arr 1 (rowsOf cG D))] E D ((T0 m).take i) (S0 m) z.2.1∧gu os z.2.1∧z.2.1[z.2.2.1]?=some (.arr 2 (rowsOf br z.2.2.2))∧z.2.2.1 ∉ List.map (fun q:Nat × Nat=>q.1) (E++D)∧os.length≤z.2.2.1∧z.2.2.2=(dt p.aP).take z.1)
      (fun z=>p.aP.length - z.1) (0,(ob++[.var (bc p)])++[.arr 2 []],(ob++[Ob.var (bc p)]).length,[]) ⟨aH _,(hL.app _).app _,(bT.app _).app _,hC _ _ _,(hL.app [.var (bc p)]).fresh (aV _),by simp;have:=bT.len;omega,rfl⟩ ?_ ?_
    · refine aQ.trans (aQ.nil 14 2 (by simp only[Kc,simprocAttr]) (by decide)) ?_
      exact Xv X0
    clear hL bT
    rintro ⟨k,ok,oi,xs⟩ ⟨hk,hL,bT,kQ,eE,vC,cl⟩ cR ba bd
    dsimp only at hk hL bT kQ eE vC cl ⊢
    by_cases aF:k<p.aP.length
    · have Dc:(dt p.aP).getD k default=fR (p.aP.getD k 0):=by
        unfold dt;rw[kH _ _ _ aF];rfl
      have A6:=eU (l:=dt p.aP) (k:=k) (by omega)
      rw[Dc,← cl] at A6
      have sV:xs.length=k:=by rw[cl,eX];omega
      have hs:=jC _ (az (d:=0) aF)
      unfold aS at hs
      generalize pN:p.aP.getD k 0=s at *
      have J3:=VS s
      have eoi:=bz kQ
      have J4:=ke kQ
      have fG:=(aY.1 kQ).1
      ((repeat' (first|refine Vc (X5 @pN @kQ @eoi @J4 (X5 @br.eq_1 @fR.eq_1 @gQ @dj.{0} (X3 @bU.{0} @bF.{0} @VO))) J3 ?_|(refine Xi ?_ ?_<;>try intro ht)|exact Xx|fail)))
      have sL:=(hL.FG (y:=.gone) eE kQ).app [.arr 2 [br (fR s)],.arr 2 (rowsOf br (xs++[fR s]))]
      refine ba _ (k+1,ok.set oi .gone++[.arr 2 [br (fR s)],.arr 2 (rowsOf br (xs++[fR s]))],ok.length+1,xs++[fR s]) ⟨by dsimp only;omega,sL,(bT.set vC).app _,yW _ _ _ _ _,(hL.FG (y:=.gone) eE kQ).fresh (by dsimp only;rw[bF];omega),by dsimp only;have:=bT.len;omega,A6.symm⟩ (by dsimp only;omega) ?_
      exact Xv (X2 @br.eq_1 @fR.eq_1)
    · rw[dN (by omega)] at cl
      have nR:=(hL.base (os.length+1,.var (gC m ai bi D E)) (by simp)).1
      have qu:=(hL.base (bi,.arr 1 (rowsOf cG E)) (by simp)).1
      have ha3:=(aY.1 (hL.base (ai,.arr 1 (rowsOf cG D)) (by simp)).1).1
      dsimp only at nR qu ha3
      have J5:=bz nR
      have J6:=bz qu
      have J7:=ke qu
      have tE:(ok.set bi .gone)[os.length+1]?=some (.var (gC m ai bi D E)):=by rw[cz (by omega)];exact nR
      have ri:=bz tE
      have J8:=ke tE
      have dV:=hL.step kQ eE (by simp only[bW,lX,or_false,forall_eq_or_imp,forall_eq];omega) [.tree 1 (rowsOf bA m.cls),.tree 4 (rowsOf bc m.ah),.tree 4 (rowsOf bu m.av),.lit (.int .i64 m.rules),.ref ai 1 0 D.length,.ref (ok.length+1) 1 0 (E.length+1)] (rowsOf cG (E++[(oi,xs.length)])) (.arr 1 [[.ref oi 2 0 xs.length]])
      have J9:gC m ai (ok.length+1) D (E++[(oi,xs.length)])=[.tree 1 (rowsOf bA m.cls),.tree 4 (rowsOf bc m.ah),.tree 4 (rowsOf bu m.av),.lit (.int .i64 m.rules),.ref ai 1 0 D.length,.ref (ok.length+1) 1 0 (E.length+1)]:=by simp[gC]
      have sm:=(aY.1 qu).1
      ((repeat' (first|refine Va X0 ?_|(refine Xi ?_ ?_<;>try intro ht)|exact Xx|fail)))
      refine bd _ _ rfl ?_
      clear ba bd cR
      repeat (refine Xu ?_)
      refine Va (X5 @nR @qu @J5 @J6 (X5 @J7 @ri @J8 @gC.eq_1 (X5 @FE @gQ @dj.{0} @bU.{0} @bF.{0}))) ?_
      refine ak _ (i+1,_,ok.length+1,E++[(oi,xs.length)]) ⟨by dsimp only;omega,by simp;omega,by dsimp only;rw[ef,← cl,J9];exact dV,((bT.set (by omega)).set (by omega)).app _,by dsimp only;omega,by dsimp only;omega⟩ (by dsimp only;omega) ?_
      exact Xv X0
  rw[dN (by unfold T0;rw[eD];omega)] at hL
  ((repeat' (first|refine Va X0 ?_|(refine Xi ?_ ?_<;>try intro ht)|exact Xx|fail)))
  refine aq _ _ rfl ?_;clear ak aq Ql
  repeat (refine Xu ?_)
  refine Vb X0 ?_
  unfold iU
  simp only[fi,ew]
  simp (disch:=omega) only[Ac,↓Pc,simprocAttr]
  refine⟨.ptr (os.length+1) 0 0,ob,⟨os.length+1,ai,bi,D,E,rfl,hL.swap.sub ?_,bT⟩,fW rfl bT.len rfl⟩
  simp only[bW,lX,or_false];intro b hb;rcases hb with rfl | rfl | rfl<;>simp
theorem aes {m:ae} (hm:VM m) {gi ai bi:Nat} {D E:List (Nat × Nat)} {S T:List (List Nm)} {os:List Ob} (h:LO br (GB m gi ai bi D E) D E S T os) {B:Int} (hg:LG m B (S,T)) {left:List (List Bool)} (hf:dK m left) (c:Nat) (hc:c<m.cls.length) :
    il Tryz.prog 178 [.ptr gi 0 0,.lit (.int .i64 c),.tree 1 (rowsOf aK left)] os fun r ob=>gu os ob∧∃ id,r=.ref id 2 0 (jf (S.getD c default) (left.getD c default)).length∧ob[id]?=some (.arr 2 (rowsOf br (jf (S.getD c default) (left.getD c default)))):=by
  obtain ⟨fg,fa,fb⟩:=JB h
  have hD:=h.rD.len
  have l0:S.length=m.cls.length:=hg.s
  have J1:=hm.cls
  have gB:=hf.1
  obtain ⟨qv,A7⟩:=h.rD.row c (by omega)
  have FX:(S.getD c default).length=(m.cls.getD c default).length:=hg.sl c hc
  have eV:=hf.2 c (by omega)
  have aet:=hm.opt _ (az (l:=m.cls) (i:=c) (d:=default) hc)
  generalize a6:S.getD c default=row at *
  generalize ic:left.getD c default=lc at *
  refine il.aD (fn:=Tryz.f178) 36 os.length [.tmp 6] Tryz.func178 rfl rfl rfl rfl rfl (by simp) ?_
  refine Vb (X5 @fg @fa @gC.eq_1 @qv @cG.eq_1) ?_
  have vg:(D.getD c default).2=row.length:=A7.symm
  refine aG (fun z:Nat × List Ob × Nat × List Nm=>(⟨aw [(1,.lit (.int .i64 c)),(2,.tree 1 (rowsOf aK left)),(7,.ref z.2.2.1 2 0 z.2.2.2.length),(16,.ref (D.getD c default).1 2 0 row.length),(17,.lit (.int .i64 row.length)),(18,.lit (.int .i64 z.1))],z.2.1⟩:St))
    (fun z=>z.1≤row.length∧gu os z.2.1∧z.2.1[z.2.2.1]?=some (.arr 2 (rowsOf br z.2.2.2))∧os.length≤z.2.2.1∧z.2.2.2=jf (row.take z.1) (lc.take z.1)∧z.2.2.2.length≤z.1)
    (fun z=>row.length - z.1) (0,os++[.arr 2 []],os.length,[]) ⟨aH _,(gu.refl os).app _,hC _ _ _,aV _,rfl,aV _⟩ ?_ ?_
  · refine aQ.trans (aQ.nil 7 2 (by simp only[Kc,simprocAttr]) (by decide)) ?_
    exact Xv @vg
  rintro ⟨i,ob,ti,xs⟩ ⟨hi,bT,eJ,jC,cl,sV⟩ Ql ak aq
  dsimp only at hi bT eJ jC cl sV ⊢
  have r1:=bT _ _ qv
  have FY:=bz r1
  have qw:=bz eJ
  have J':=ke eJ
  have xj:=(aY.1 eJ).1
  by_cases ax:i<row.length
  · have h1:=eU ax
    have h2:=eU (l:=lc) (k:=i) (by omega)
    have h3:=Jy (row.getD i default) (lc.getD i default) (row.take i) (lc.take i) (by rw[eX,eX];omega)
    rw[← h1,← h2,← cl] at h3
    have vA:lc.getD i default=lc.getD i false:=rfl
    rw[vA] at h3
    generalize bQ:row.getD i default=p at *
    generalize y8:lc.getD i false=is at *
    cases is
    · simp only[iJ,if_false,oe] at h3
      ((repeat' (first|refine Va (X5 @r1 @FY @br.eq_1 @bQ (X4 @ic @y8 @aK.eq_1 @gQ)) ?_|(refine Xi ?_ ?_<;>try intro ht)|exact Xx|fail)))
      refine ak _ (i+1,ob++[.var (br p)],ti,xs) ⟨by dsimp only;omega,bT.app _,qw _,jC,h3.symm,by dsimp only;omega⟩ (by dsimp only;omega) ?_
      exact Xv X0
    · simp only[if_true] at h3
      have Ka:rowsOf br xs++[[AV.lit (.int .i64 p.1),.lit (.bool p.2)]]=rowsOf br (xs++[p]):=by simp[rowsOf,br]
      ((repeat' (first|refine Va (X5 @r1 @FY @eJ @qw (X5 @J' @br.eq_1 @bQ @ic (X5 @y8 @aK.eq_1 @Ka @gQ (X3 @dj.{0} @bU.{0} @bF.{0})))) ?_|(refine Xi ?_ ?_<;>try intro ht)|exact Xx|fail)))
      refine ak _ (i+1,ob.set ti .gone++[.var (br p),.arr 2 [br p],.arr 2 (rowsOf br (xs++[p]))],ob.length+2,xs++[p]) ⟨by dsimp only;omega,(bT.set jC).app _,yW _ _ _ _ _,by dsimp only;have:=bT.len;omega,h3.symm,by simp;omega⟩ (by dsimp only;omega) ?_
      exact Xv @br.eq_1
  · rw[dN (by omega),dN (by omega)] at cl
    ((repeat' (first|refine Va X0 ?_|(refine Xi ?_ ?_<;>try intro ht)|exact Xx|fail)))
    refine aq _ _ rfl ?_;clear ak aq Ql
    repeat (refine Xu ?_)
    refine Vb X0 ?_
    unfold iU
    simp only[fi,ew]
    simp (disch:=omega) only[Ac,↓Pc,simprocAttr]
    rw[← cl]
    exact⟨_,_,⟨bT,ti,rfl,eJ⟩,fW rfl bT.len rfl⟩
theorem aeu {m:ae} (hm:VM m) {gi ai bi:Nat} {D E:List (Nat × Nat)} {S T:List (List Nm)} {os:List Ob} (h:LO br (GB m gi ai bi D E) D E S T os) {B:Int} (hg:LG m B (S,T)) {left:List (List Bool)} (hf:dK m left) (c:Nat) (hc:c<m.ah.length) :
    il Tryz.prog 179 [.ptr gi 0 0,.lit (.int .i64 c),.tree 1 (rowsOf aK left)] os fun r ob=>gu os ob∧∃ id,r=.ref id 2 0 (jf (T.getD c default) (gN m left c)).length∧ob[id]?=some (.arr 2 (rowsOf br (jf (T.getD c default) (gN m left c)))):=by
  obtain ⟨fg,fa,fb⟩:=JB h
  have eg:=bz fg
  have ea:=bz fa
  have eb:=bz fb
  have hD:=h.rD.len
  have hE:=h.rE.len
  have l0:S.length=m.cls.length:=hg.s
  have IY:T.length=m.ah.length:=hg.t
  have J1:=hm.cls
  have Db:=hm.ah
  have gB:=hf.1
  obtain ⟨vD,FZ⟩:=h.rE.row c (by omega)
  have Cv:(T.getD c default).length=(m.ah.getD c default).aP.length:=hg.tl c hc
  have ca:=fY hm.pr _ (az (d:=default) hc)
  obtain ⟨VU,VV,VW,F0⟩:=Kb ca
  have xj:=Dd ca hm
  have uy:=hf.2 (m.ah.getD c default).fst.toNat (by omega)
  have pO:=hf.2 (m.ah.getD c default).snd.toNat (by omega)
  have hoa:=hm.opt _ (az (l:=m.cls) (i:=(m.ah.getD c default).fst.toNat) (d:=default) (by omega))
  have cj:=hm.opt _ (az (l:=m.cls) (i:=(m.ah.getD c default).snd.toNat) (d:=default) (by omega))
  obtain ⟨VX,rP2⟩:=h.rD.row (m.ah.getD c default).snd.toNat (by omega)
  have VY:(S.getD (m.ah.getD c default).snd.toNat default).length=(m.cls.getD (m.ah.getD c default).snd.toNat default).length:=hg.sl _ (by omega)
  have Kd:gN m left c=pJ (left.getD (m.ah.getD c default).fst.toNat default) (left.getD (m.ah.getD c default).snd.toNat default):=rfl
  have y9:=CO (left.getD (m.ah.getD c default).snd.toNat default) (left.getD (m.ah.getD c default).fst.toNat default)
  have za:=Fw (left.getD (m.ah.getD c default).snd.toNat default) (left.getD (m.ah.getD c default).fst.toNat default)
  rw[← Kd] at y9 za
  generalize a6:T.getD c default=row at *
  generalize bQ:m.ah.getD c default=p at *
  generalize De:left.getD p.fst.toNat default=la at *
  generalize Df:left.getD p.snd.toNat default=lb at *
  generalize gN m left c=pb at *
  have VZ:(D.getD p.snd.toNat default).2=lb.length:=by rw[← rP2,VY,pO]
  have bd:row.length=pb.length:=by
    rw[y9,uy,pO,Cv]
    have:=F0
    rw[← Int.natCast_mul] at this
    exact Int.ofNat_inj.1 this
  have vg:(E.getD c default).2=row.length:=FZ.symm
  have qp:=bz VX
  have qe:=bz vD
  refine il.aD (fn:=Tryz.f179) 70 os.length [.tmp 6] Tryz.func179 rfl rfl rfl rfl rfl (by simp) ?_
  (((refine Vb (X5 @fg @fa @fb @eg (X5 @ea @eb @gC.eq_1 @VX (X5 @qp @vD @qe @cG.eq_1 (X5 @bQ @bc.eq_1 @gQ @VZ @vg)))) ?_)))
  refine aG (fun z:Nat × List Ob × Nat × List Nm=>(⟨aw [(2,.tree 1 (rowsOf aK left)),(7,.ptr os.length 0 0),(8,.lit (.int .i64 lb.length)),(9,.ref z.2.2.1 2 0 z.2.2.2.length),(35,.ref (E.getD c default).1 2 0 row.length),(36,.lit (.int .i64 row.length)),(37,.lit (.int .i64 z.1))],z.2.1⟩:St))
    (fun z=>z.1≤row.length∧gu (os++[.var (bc p)]) z.2.1∧z.2.1[z.2.2.1]?=some (.arr 2 (rowsOf br z.2.2.2))∧os.length<z.2.2.1∧z.2.2.2=jf (row.take z.1) (pb.take z.1)∧z.2.2.2.length≤z.1)
    (fun z=>row.length - z.1) (0,(os++[.var (bc p)])++[.arr 2 []],(os++[Ob.var (bc p)]).length,[]) ⟨aH _,(gu.refl _).app _,hC _ _ _,by simp,rfl,aV _⟩ ?_ ?_
  · refine aQ.trans (aQ.nil 9 2 (by simp only[Kc,simprocAttr]) (by decide)) ?_
    exact Xv (X2 @vg @VZ)
  rintro ⟨i,ob,ti,xs⟩ ⟨hi,bT,eJ,jC,cl,sV⟩ Ql ak aq
  dsimp only at hi bT eJ jC cl sV ⊢
  have r1:=bT _ _ (qe [.var (bc p)])
  have rv:ob[os.length]?=some (.var (bc p)):=bT _ _ (hC _ _ _)
  have FY:=bz r1
  have erv:=bz rv
  have qw:=bz eJ
  have J':=ke eJ
  have aiW:=(aY.1 eJ).1
  have eM:=bT.len
  rw[bU,xN] at eM
  by_cases ax:i<row.length
  · have h1:=eU ax
    have h2:=eU (l:=pb) (k:=i) (by omega)
    have h3:=Jy (row.getD i default) (pb.getD i default) (row.take i) (pb.take i) (by rw[eX,eX];omega)
    rw[← h1,← h2,← cl] at h3
    have vA:pb.getD i default=(la.getD (i / lb.length) false && lb.getD (i % lb.length) false):=za i (by omega)
    rw[vA] at h3
    have V0:0<lb.length:=by
      rcases Nat.eq_zero_or_pos lb.length with h0 | h0
      · rw[h0,Nat.mul_zero] at y9;omega
      · exact h0
    have hdiv:i / lb.length<la.length:=by rw[Nat.div_lt_iff_lt_mul V0];omega
    have qY:=Nat.mod_lt i V0
    have hq:((i:Int).tdiv lb.length)=((i / lb.length:Nat):Int):=by rw[Int.tdiv_eq_ediv_of_nonneg (by omega)];simp
    have hr:((i:Int).tmod lb.length)=((i % lb.length:Nat):Int):=by rw[Int.tmod_eq_emod_of_nonneg (by omega)];simp
    have hq2:((i:Int) / (lb.length:Int))=((i / lb.length:Nat):Int):=by simp
    have fF:((i:Int) % (lb.length:Int))=((i % lb.length:Nat):Int):=by simp
    generalize V1:i / lb.length=dd at *
    generalize y7:i % lb.length=mm at *
    generalize Ke:row.getD i default=q at *
    generalize B2:la.getD dd false=ia at *
    generalize H9:lb.getD mm false=ib at *
    have Ka:rowsOf br xs++[[AV.lit (.int .i64 q.1),.lit (.bool q.2)]]=rowsOf br (xs++[q]):=by simp[rowsOf,br]
    cases ia<;>cases ib
    all_goals
      simp only[Bool.false_and,Bool.true_and,iJ,if_false,if_true,oe] at h3
      ((repeat' (first|refine Va (X5 @r1 @FY @rv @erv (X5 @eJ @qw @J' @br.eq_1 (X5 @bc.eq_1 @Ke @De @Df (X5 @hq @hr @hq2 @fF (X5 @B2 @H9 @aK.eq_1 @Ka (X5 @gQ @Int.toNat_natCast @dj.{0} @bU.{0} @bF.{0})))))) ?_|(refine Xi ?_ ?_<;>try intro ht)|exact Xx|fail)))
    all_goals first
      | (refine ak _ (i+1,ob++[.var (br q)],ti,xs) ⟨by dsimp only;omega,bT.app _,qw _,jC,h3.symm,by dsimp only;omega⟩ (by dsimp only;omega) ?_
         exact Xv @br.eq_1;done)
      | (refine ak _ (i+1,ob.set ti .gone++[.var (br q),.arr 2 [br q],.arr 2 (rowsOf br (xs++[q]))],ob.length+2,xs++[q]) ⟨by dsimp only;omega,(bT.set (by rw[bU,xN];omega)).app _,yW _ _ _ _ _,by dsimp only;omega,h3.symm,by simp;omega⟩ (by dsimp only;omega) ?_
         exact Xv @br.eq_1;done)
  · rw[dN (by omega),dN (by omega)] at cl
    ((repeat' (first|refine Va X0 ?_|(refine Xi ?_ ?_<;>try intro ht)|exact Xx|fail)))
    refine aq _ _ rfl ?_;clear ak aq Ql
    repeat (refine Xu ?_)
    refine Vb X0 ?_
    unfold iU
    simp only[fi,ew]
    simp (disch:=omega) only[Ac,↓Pc,simprocAttr]
    rw[← cl]
    refine⟨_,ob,⟨fun k o hk=>bT k o (bz hk _),ti,rfl,eJ⟩,fW rfl (by omega) rfl⟩
theorem LG.mono {m:ae} {B C:Int} {g:Lg} (h:LG m B g) (hc:B≤C):LG m C g:=⟨h.s,h.t,h.sl,h.tl,fun r hr=>(h.sb r hr).mono hc,fun r hr=>(h.tb r hr).mono hc⟩
end T

