import Derived.Test.YtdipcmigdbnheaaGreatX23
import Derived.Test.YtdipcmigdbnheaaGreatX15
import Derived.Test.YtdipcmigdbnheaaGreatX10
set_option linter.unusedVariables false
set_option linter.unusedSimpArgs false
set_option linter.unnecessarySimpa false
set_option linter.unusedSectionVars false
set_option maxHeartbeats 64000000
set_option maxRecDepth 20000
open List renaming append_assoc→dI,length_append→bV,cons_append→da,nil_append→dh,set_cons_succ→uP,set_cons_zero→qW,length_cons→dH,length_nil→mQ,take_zero→p5,mem_cons→cu,not_mem_nil→ly,length_map→ey,length_take→gV,take_of_length_le→fN,getElem?_eq_some_iff→aQ,length_set→bI,getElem?_set_ne→bm
open Nat renaming zero_add→fi,zero_le→aM,le_refl→aG
open Go Go.Am Go.Proofs
open Nat (reduceEqDiff reduceAdd reduceLeDiff reduceMul)
open Int (reduceNeg reduceLE reduceToNat)
namespace T
theorem TS (xs:List Nm) (n:Int):rowsOf bC xs++[[AV.lit (.int .i64 n),.lit (.bool (decide (1099511627776≤n)))]]=rowsOf bC (xs++[gz n]):=by simp[rowsOf,bC,gz]
theorem acH {m:aj} (hm:VM m) (os:List Ob):eO Tryz.prog 132 [.agg (ar m)] os fun r ob=>∃ gi ai bi D E,r=.ptr gi 0 0∧LO bC (GB m gi ai bi D E) D E (S0 m) (T0 m) ob∧ga os ob:=by
  have Ik:=hm.cls
  have yN:=hm.ae
  refine eO.aD (fn:=Tryz.f132) 94 os.length [.tmp 2] Tryz.func132 rfl rfl rfl rfl rfl (by simp) ?_
  refine Vb (X3 @dC @dI.{0} @bV.{0}) ?_
  have TT:(os++[Ob.var (ar m),Ob.var (ar m++[.lit (.slice none 0 0),.lit (.slice none 0 0)])])[os.length+1]?=some (.var (ar m++[.lit (.slice none 0 0),.lit (.slice none 0 0)])):=by rw[nj];rfl
  refine bJ (aB.ld (os.length+1) 4 1 TT rfl (by decide)) ?_
  simp only[dI,da,dh,El,uP,qW,bV,dH,mQ,ar,fi,Nat.reduceAdd]
  clear TT
  refine bJ (aB.ld (os.length+1) 5 1 (by rw[nj];rfl) rfl (by decide)) ?_
  simp only[dI,da,dh,El,uP,qW,bV,dH,mQ,fi,Nat.reduceAdd]
  have TU:LO bC [(os.length+1,.var (gC m (os.length+2) (os.length+3) [] [])),(os.length+2,.arr 1 (rowsOf gT [])),(os.length,.var (ar m)),(os.length+3,.arr 1 (rowsOf gT []))] [] [] ((S0 m).take 0) [] (os++[.var (ar m),.var (gC m (os.length+2) (os.length+3) [] []),.arr 1 [],.arr 1 []]):=by
    refine⟨fun b hb=>?_,by rw[p5];exact RI.nil,RI.nil,by simp⟩
    simp only[cu,ly,or_false] at hb
    rcases hb with rfl | rfl | rfl | rfl
    · exact⟨by rw[nj];rfl,by simp⟩
    · exact⟨by rw[nj];rfl,by simp⟩
    · exact⟨by rw[mi],by simp⟩
    · exact⟨by rw[nj];rfl,by simp⟩
  refine aU (fun z:Nat × List Ob × Nat × List (Nat × Nat)=>(⟨aw [(1,.ptr os.length 0 0),(3,.ptr (os.length+1) 0 0),(21,.tree 1 (rowsOf bD m.cls)),(22,.lit (.int .i64 m.cls.length)),(23,.lit (.int .i64 z.1))],z.2.1⟩:St))
    (fun z=>z.1≤m.cls.length∧z.2.2.2.length=z.1∧LO bC [(os.length+1,.var (gC m z.2.2.1 (os.length+3) z.2.2.2 [])),(z.2.2.1,.arr 1 (rowsOf gT z.2.2.2)),(os.length,.var (ar m)),(os.length+3,.arr 1 (rowsOf gT []))] z.2.2.2 [] ((S0 m).take z.1) [] z.2.1∧ga os z.2.1∧os.length+1<z.2.2.1∧z.2.2.1≠os.length+3)
    (fun z=>m.cls.length - z.1) (0,os++[.var (ar m),.var (gC m (os.length+2) (os.length+3) [] []),.arr 1 [],.arr 1 []],os.length+2,[]) ⟨aM _,rfl,TU,(ga.refl os).app _,by dsimp only;omega,by dsimp only;omega⟩ (Xv X0) ?_
  clear TU
  rintro ⟨i,ob,ai,D⟩ ⟨hi,hD,hL,bQ,Ar,Il⟩ Ql aq av
  dsimp only at hi hD hL bQ Ar Il ⊢
  by_cases hi':i<m.cls.length
  · have gp:=aC (d:=default) hi'
    have vH:=hm.opt _ gp
    have eN:(S0 m).take (i+1)=(S0 m).take i++[hJ (jL (m.cls.getD i default))]:=by
      rw[iD (by unfold S0;rw[ey];exact hi')]
      unfold S0;rw[iG _ _ _ hi']
    have ep:=fun o ho=>hm.kI _ gp o ho
    have Bt:=fun o ho=>acI hm gp (o:=o) ho
    generalize aR:m.cls.getD i default=c at *
    ((repeat' (first|refine Va (X2 @aR @bD.eq_1) ?_|(refine Xi ?_ ?_<;>try intro ht)|exact Xx|fail)))
    have Ex:(hJ (jL c)).length=c.length:=by unfold hJ jL;simp
    refine aU (fun z:Nat × List Ob × Nat × List Nm=>(⟨aw [(1,.ptr os.length 0 0),(3,.ptr (os.length+1) 0 0),(21,.tree 1 (rowsOf bD m.cls)),(22,.lit (.int .i64 m.cls.length)),(23,.lit (.int .i64 i)),(6,.ref z.2.2.1 2 0 z.2.2.2.length),(27,.tree 6 (rowsOf cD c)),(28,.lit (.int .i64 c.length)),(29,.lit (.int .i64 z.1))],z.2.1⟩:St))
      (fun z=>z.1≤c.length∧LO bC [(os.length+1,.var (gC m ai (os.length+3) D [])),(ai,.arr 1 (rowsOf gT D)),(os.length,.var (ar m)),(os.length+3,.arr 1 (rowsOf gT []))] D [] ((S0 m).take i) [] z.2.1∧ga os z.2.1∧z.2.1[z.2.2.1]?=some (.arr 2 (rowsOf bC z.2.2.2))∧z.2.2.1 ∉ List.map (fun q:Nat × Nat=>q.1) (D++[])∧os.length≤z.2.2.1∧z.2.2.2=(hJ (jL c)).take z.1)
      (fun z=>c.length - z.1) (0,ob++[.arr 2 []],ob.length,[]) ⟨aM _,hL.app _,bQ.app _,mi _ _ _,hL.fresh (aG _),bQ.len,rfl⟩ ?_ ?_
    · refine aB.trans (aB.nil 6 2 (by simp only[Kc,simprocAttr]) (by decide)) ?_
      exact Xv X0
    clear hL bQ
    rintro ⟨k,ok,oi,xs⟩ ⟨hk,hL,bQ,km,dK,Bu,ew⟩ eo bP bM
    dsimp only at hk hL bQ km dK Bu ew ⊢
    by_cases aH:k<c.length
    · have eu:=aC (l:=c) (d:=default) aH
      have TV:=Hb (ep _ eu)
      have afT:=Bt _ eu
      have AQ:(hJ (jL c)).getD k default=gz (jg (c.getD k default)):=by
        unfold hJ jL;rw[List.map_map,iG _ _ _ aH];rfl
      have zm:=iD (l:=hJ (jL c)) (k:=k) (by omega)
      rw[AQ,← ew] at zm
      have pR:xs.length=k:=by rw[ew,gV];omega
      generalize lH:c.getD k default=o at *
      ((repeat' (first|refine Va (X3 @lH @dC @cD.eq_1) ?_|(refine Xi ?_ ?_<;>try intro ht)|exact Xx|fail)))
      refine aU (fun z:Nat × List Ob=>(⟨aw [(1,.ptr os.length 0 0),(3,.ptr (os.length+1) 0 0),(21,.tree 1 (rowsOf bD m.cls)),(22,.lit (.int .i64 m.cls.length)),(23,.lit (.int .i64 i)),(6,.ref oi 2 0 xs.length),(27,.tree 6 (rowsOf cD c)),(28,.lit (.int .i64 c.length)),(29,.lit (.int .i64 k)),(9,.lit (.int .i64 (((o.ch.take z.1).map (·.2)).foldl dw 0))),(34,.tree 2 (rowsOf bA o.ch)),(35,.lit (.int .i64 o.ch.length)),(36,.lit (.int .i64 z.1))],z.2⟩:St))
        (fun z=>z.1≤o.ch.length∧LO bC [(os.length+1,.var (gC m ai (os.length+3) D [])),(ai,.arr 1 (rowsOf gT D)),(os.length,.var (ar m)),(os.length+3,.arr 1 (rowsOf gT []))] D [] ((S0 m).take i) [] z.2∧ga os z.2∧z.2[oi]?=some (.arr 2 (rowsOf bC xs)))
        (fun z=>o.ch.length - z.1) (0,ok++[.var (cD o)]) ⟨aM _,hL.app _,bQ.app _,bK km _⟩ (Xv (X4 @p5.{0} @List.map_nil.{0,0} @List.foldl_nil.{0,0} @cD.eq_1)) ?_
      clear hL bQ km
      rintro ⟨q,oq⟩ ⟨hq,hL,bQ,km⟩ ma gM eV
      dsimp only at hq hL bQ km ⊢
      have hs:=DJ ((o.ch.take q).map (·.2)) 0 (fun x hx=>by
        obtain ⟨c,ka,rfl⟩:=List.mem_map.1 hx;exact TV c (List.mem_of_mem_take ka)) (by unfold bF;decide)
      by_cases yC:q<o.ch.length
      · have acJ:=TV _ (aC (d:=default) yC)
        have gm:=OD o.ch q yC
        generalize ((o.ch.take q).map (·.2)).foldl dw 0=s at *
        have s8:=Hi s (o.ch.getD q default).2 hs acJ
        generalize mH:o.ch.getD q default=y at *
        ((repeat' (first|refine Vc (X3 @mH @dC @bA.eq_1) s8 ?_|(refine Xi ?_ ?_<;>try intro ht)|exact Xx|fail)))
        refine gM _ (q+1,oq++[.var (bA y)]) ⟨by dsimp only;omega,hL.app _,bQ.app _,bK km _⟩ (by dsimp only;omega) ?_
        simp only[gm]
        exact Xv @bA.eq_1
      · have lJ:((o.ch.take q).map (·.2)).foldl dw 0=jg o:=by rw[fN (by omega)];rfl
        rw[lJ] at hs
        rw[← lJ] at zm
        generalize ((o.ch.take q).map (·.2)).foldl dw 0=s at *
        have Im:=TB s
        have eoi:=bK km
        have Io:=hU km
        have fT:=(aQ.1 km).1
        ((repeat' (first|refine Va X0 ?_|(refine Xi ?_ ?_<;>try intro ht)|exact Xx|fail)))
        refine eV _ _ rfl ?_
        clear gM eV ma
        repeat (refine Xu ?_)
        refine Vc (X5 @km @eoi @Io @bC.eq_1 (X5 @gz.eq_1 @dC @dI.{0} @bV.{0} (X2 @bI.{0} @TS))) Im ?_
        have Bv:=(hL.En (y:=.gone) dK km).app [.arr 2 [bC (gz s)],.arr 2 (rowsOf bC (xs++[gz s]))]
        refine bP _ (k+1,oq.set oi .gone++[.arr 2 [bC (gz s)],.arr 2 (rowsOf bC (xs++[gz s]))],oq.length+1,xs++[gz s]) ⟨by dsimp only;omega,Bv,(bQ.set Bu).app _,zf _ _ _ _ _,(hL.En (y:=.gone) dK km).fresh (by dsimp only;rw[bI];omega),by dsimp only;have:=bQ.len;omega,zm.symm⟩ (by dsimp only;omega) ?_
        exact Xv (X2 @bC.eq_1 @gz.eq_1)
    · rw[fN (by omega)] at ew
      have oK:=(hL.base (os.length+1,.var (gC m ai (os.length+3) D [])) (by simp)).1
      have rW:=(hL.base (ai,.arr 1 (rowsOf gT D)) (by simp)).1
      dsimp only at oK rW
      have Ip:=bK oK
      have Iq:=bK rW
      have Ir:=hU rW
      have sA:(ok.set ai .gone)[os.length+1]?=some (.var (gC m ai (os.length+3) D [])):=by rw[bm (by omega)];exact oK
      have qO:=bK sA
      have Is:=hU sA
      have gm:=hL.step km dK (by simp only[cu,ly,or_false,forall_eq_or_imp,forall_eq];omega) [.tree 1 (rowsOf bD m.cls),.tree 4 (rowsOf bu m.ae),.tree 4 (rowsOf aO m.au),.lit (.int .i64 m.rules),.ref (ok.length+1) 1 0 (D.length+1),.ref (os.length+3) 1 0 0] (rowsOf gT (D++[(oi,xs.length)])) (.arr 1 [[.ref oi 2 0 xs.length]])
      have It:gC m (ok.length+1) (os.length+3) (D++[(oi,xs.length)]) []=[.tree 1 (rowsOf bD m.cls),.tree 4 (rowsOf bu m.ae),.tree 4 (rowsOf aO m.au),.lit (.int .i64 m.rules),.ref (ok.length+1) 1 0 (D.length+1),.ref (os.length+3) 1 0 0]:=by simp[gC]
      have zn:=(aQ.1 (hL.base (os.length+3,.arr 1 (rowsOf gT [])) (by simp)).1).1
      have fK:=(aQ.1 rW).1
      dsimp only at zn
      ((repeat' (first|refine Va X0 ?_|(refine Xi ?_ ?_<;>try intro ht)|exact Xx|fail)))
      refine bM _ _ rfl ?_
      clear bP bM eo
      repeat (refine Xu ?_)
      refine Va (X5 @oK @rW @Ip @Iq (X5 @Ir @qO @Is @gC.eq_1 (X5 @Tt @dC @dI.{0} @bV.{0} @bI.{0}))) ?_
      refine aq _ (i+1,_,ok.length+1,D++[(oi,xs.length)]) ⟨by dsimp only;omega,by simp;omega,by dsimp only;rw[eN,← ew,It];exact gm,((bQ.set (by omega)).set (by omega)).app _,by dsimp only;omega,by dsimp only;omega⟩ (by dsimp only;omega) ?_
      exact Xv X0
  rw[fN (by unfold S0;rw[ey];omega)] at hL
  have rH:=(hL.base (os.length,.var (ar m)) (by simp)).1
  dsimp only at rH
  ((repeat' (first|refine Va @rH ?_|(refine Xi ?_ ?_<;>try intro ht)|exact Xx|fail)))
  refine av _ _ rfl ?_;clear aq av Ql
  repeat (refine Xu ?_)
  refine Va @rH ?_
  have TW:LO bC [(os.length+1,.var (gC m ai (os.length+3) D [])),(os.length+3,.arr 1 (rowsOf gT [])),(os.length,.var (ar m)),(ai,.arr 1 (rowsOf gT D))] [] D ((T0 m).take 0) (S0 m) ob:=hL.swap.sub (by simp only[cu,ly,or_false];intro b hb;rcases hb with rfl | rfl | rfl | rfl<;>simp)
  refine aU (fun z:Nat × List Ob × Nat × List (Nat × Nat)=>(⟨aw [(1,.ptr os.length 0 0),(3,.ptr (os.length+1) 0 0),(63,.tree 4 (rowsOf bu m.ae)),(64,.lit (.int .i64 m.ae.length)),(65,.lit (.int .i64 z.1))],z.2.1⟩:St))
    (fun z=>z.1≤m.ae.length∧z.2.2.2.length=z.1∧LO bC [(os.length+1,.var (gC m ai z.2.2.1 D z.2.2.2)),(z.2.2.1,.arr 1 (rowsOf gT z.2.2.2)),(os.length,.var (ar m)),(ai,.arr 1 (rowsOf gT D))] z.2.2.2 D ((T0 m).take z.1) (S0 m) z.2.1∧ga os z.2.1∧os.length+1<z.2.2.1∧ai≠z.2.2.1)
    (fun z=>m.ae.length - z.1) (0,ob,os.length+3,[]) ⟨aM _,rfl,TW,bQ,by dsimp only;omega,Il⟩ (Xv X0) ?_
  clear hL TW bQ rH hi hi' Il ob
  rintro ⟨i,ob,bi,E⟩ ⟨hi,hE,hL,bQ,fL,o9⟩ Ql aq av
  dsimp only at hi hE hL bQ fL o9 ⊢
  by_cases hi':i<m.ae.length
  · have dG:=jh hm.pr _ (aC (d:=default) hi')
    have zo:=Iu dG hm
    have ln:=DH dG
    have eN:(T0 m).take (i+1)=(T0 m).take i++[hJ (m.ae.getD i default).az]:=by
      rw[iD (by unfold T0;rw[ey];exact hi')]
      unfold T0;rw[iG _ _ _ hi']
    generalize cT:m.ae.getD i default=p at *
    ((repeat' (first|refine Va (X3 @cT @dC @bu.eq_1) ?_|(refine Xi ?_ ?_<;>try intro ht)|exact Xx|fail)))
    have Ex:(hJ p.az).length=p.az.length:=by unfold hJ;simp
    refine aU (fun z:Nat × List Ob × Nat × List Nm=>(⟨aw [(1,.ptr os.length 0 0),(3,.ptr (os.length+1) 0 0),(63,.tree 4 (rowsOf bu m.ae)),(64,.lit (.int .i64 m.ae.length)),(65,.lit (.int .i64 i)),(14,.ref z.2.2.1 2 0 z.2.2.2.length),(70,.tree 1 (ints p.az)),(71,.lit (.int .i64 p.az.length)),(72,.lit (.int .i64 z.1))],z.2.1⟩:St))
      (fun z=>z.1≤p.az.length∧LO bC [(os.length+1,.var (gC m ai bi D E)),(bi,.arr 1 (rowsOf gT E)),(os.length,.var (ar m)),(ai,.arr 1 (rowsOf gT D))] E D ((T0 m).take i) (S0 m) z.2.1∧ga os z.2.1∧z.2.1[z.2.2.1]?=some (.arr 2 (rowsOf bC z.2.2.2))∧z.2.2.1 ∉ List.map (fun q:Nat × Nat=>q.1) (E++D)∧os.length≤z.2.2.1∧z.2.2.2=(hJ p.az).take z.1)
      (fun z=>p.az.length - z.1) (0,(ob++[.var (bu p)])++[.arr 2 []],(ob++[Ob.var (bu p)]).length,[]) ⟨aM _,(hL.app _).app _,(bQ.app _).app _,mi _ _ _,(hL.app [.var (bu p)]).fresh (aG _),by simp;have:=bQ.len;omega,rfl⟩ ?_ ?_
    · refine aB.trans (aB.nil 14 2 (by simp only[Kc,simprocAttr]) (by decide)) ?_
      exact Xv X0
    clear hL bQ
    rintro ⟨k,ok,oi,xs⟩ ⟨hk,hL,bQ,km,dK,Bu,ew⟩ eo bP bM
    dsimp only at hk hL bQ km dK Bu ew ⊢
    by_cases aH:k<p.az.length
    · have AQ:(hJ p.az).getD k default=gz (p.az.getD k 0):=by
        unfold hJ;rw[iG _ _ _ aH];rfl
      have zm:=iD (l:=hJ p.az) (k:=k) (by omega)
      rw[AQ,← ew] at zm
      have pR:xs.length=k:=by rw[ew,gV];omega
      have hs:=ln _ (aC (d:=0) aH)
      unfold bF at hs
      generalize mH:p.az.getD k 0=s at *
      have Im:=TB s
      have eoi:=bK km
      have Io:=hU km
      have fT:=(aQ.1 km).1
      ((repeat' (first|refine Vc (X5 @mH @km @eoi @Io (X5 @bC.eq_1 @gz.eq_1 @dC @dI.{0} (X3 @bV.{0} @bI.{0} @TS))) Im ?_|(refine Xi ?_ ?_<;>try intro ht)|exact Xx|fail)))
      have Bv:=(hL.En (y:=.gone) dK km).app [.arr 2 [bC (gz s)],.arr 2 (rowsOf bC (xs++[gz s]))]
      refine bP _ (k+1,ok.set oi .gone++[.arr 2 [bC (gz s)],.arr 2 (rowsOf bC (xs++[gz s]))],ok.length+1,xs++[gz s]) ⟨by dsimp only;omega,Bv,(bQ.set Bu).app _,zf _ _ _ _ _,(hL.En (y:=.gone) dK km).fresh (by dsimp only;rw[bI];omega),by dsimp only;have:=bQ.len;omega,zm.symm⟩ (by dsimp only;omega) ?_
      exact Xv (X2 @bC.eq_1 @gz.eq_1)
    · rw[fN (by omega)] at ew
      have oK:=(hL.base (os.length+1,.var (gC m ai bi D E)) (by simp)).1
      have rW:=(hL.base (bi,.arr 1 (rowsOf gT E)) (by simp)).1
      have ha3:=(aQ.1 (hL.base (ai,.arr 1 (rowsOf gT D)) (by simp)).1).1
      dsimp only at oK rW ha3
      have Ip:=bK oK
      have Iq:=bK rW
      have Ir:=hU rW
      have sA:(ok.set bi .gone)[os.length+1]?=some (.var (gC m ai bi D E)):=by rw[bm (by omega)];exact oK
      have qO:=bK sA
      have Is:=hU sA
      have gm:=hL.step km dK (by simp only[cu,ly,or_false,forall_eq_or_imp,forall_eq];omega) [.tree 1 (rowsOf bD m.cls),.tree 4 (rowsOf bu m.ae),.tree 4 (rowsOf aO m.au),.lit (.int .i64 m.rules),.ref ai 1 0 D.length,.ref (ok.length+1) 1 0 (E.length+1)] (rowsOf gT (E++[(oi,xs.length)])) (.arr 1 [[.ref oi 2 0 xs.length]])
      have It:gC m ai (ok.length+1) D (E++[(oi,xs.length)])=[.tree 1 (rowsOf bD m.cls),.tree 4 (rowsOf bu m.ae),.tree 4 (rowsOf aO m.au),.lit (.int .i64 m.rules),.ref ai 1 0 D.length,.ref (ok.length+1) 1 0 (E.length+1)]:=by simp[gC]
      have fK:=(aQ.1 rW).1
      ((repeat' (first|refine Va X0 ?_|(refine Xi ?_ ?_<;>try intro ht)|exact Xx|fail)))
      refine bM _ _ rfl ?_
      clear bP bM eo
      repeat (refine Xu ?_)
      refine Va (X5 @oK @rW @Ip @Iq (X5 @Ir @qO @Is @gC.eq_1 (X5 @Tt @dC @dI.{0} @bV.{0} @bI.{0}))) ?_
      refine aq _ (i+1,_,ok.length+1,E++[(oi,xs.length)]) ⟨by dsimp only;omega,by simp;omega,by dsimp only;rw[eN,← ew,It];exact gm,((bQ.set (by omega)).set (by omega)).app _,by dsimp only;omega,by dsimp only;omega⟩ (by dsimp only;omega) ?_
      exact Xv X0
  rw[fN (by unfold T0;rw[ey];omega)] at hL
  ((repeat' (first|refine Va X0 ?_|(refine Xi ?_ ?_<;>try intro ht)|exact Xx|fail)))
  refine av _ _ rfl ?_;clear aq av Ql
  repeat (refine Xu ?_)
  refine Vb X0 ?_
  unfold fU
  simp only[dX,dQ]
  simp (disch:=omega) only[Ac,↓Pc,simprocAttr]
  refine⟨.ptr (os.length+1) 0 0,ob,⟨os.length+1,ai,bi,D,E,rfl,hL.swap.sub ?_,bQ⟩,fJ rfl bQ.len rfl⟩
  simp only[cu,ly,or_false];intro b hb;rcases hb with rfl | rfl | rfl<;>simp
theorem Et:IntKind.u64.min=0:=rfl
theorem Eu:IntKind.u64.max=18446744073709551615:=rfl
theorem acL:IntKind.u64.bits=64:=rfl
theorem p32:(2:Int) ^ (32:Nat)=4294967296:=rfl
theorem acB {n:Int} (h:0≤n∧n≤18446744073709551615):IntKind.u64.wrap n=n:=u9 h
theorem acC {n:Int} (h : -9223372036854775808≤n∧n≤9223372036854775807):IntKind.i64.wrap n=n:=u9 h
theorem acN {a:Int} (h:0≤a∧a≤18446744073709551615):yr .u64 a 4294967295=a % 4294967296:=by
  unfold yr
  have e:(BitVec.ofInt IntKind.u64.bits a &&& BitVec.ofInt IntKind.u64.bits 4294967295).toNat=a.toNat % 4294967296:=by
    rw[BitVec.toNat_and,BitVec.toNat_ofInt,BitVec.toNat_ofInt]
    have h1:(a % ((2 ^ IntKind.u64.bits:Nat):Int)).toNat=a.toNat:=by rw[Int.emod_eq_of_lt h.1 (by show a<18446744073709551616;omega)]
    have h2:((4294967295:Int) % ((2 ^ IntKind.u64.bits:Nat):Int)).toNat=2 ^ 32 - 1:=by decide
    rw[h1,h2,Nat.and_two_pow_sub_one_eq_mod]
  rw[e]
  rw[u9 (by simp only[Et,Eu];omega)]
  omega
theorem unI:Tryz.prog.underlying 3=some (.int .i64):=by kernel_rfl
theorem unU:Tryz.prog.underlying 238=some (.int .u64):=by kernel_rfl
theorem acO (y:Int) (hy:0≤y∧y≤9223372036854775807):an Tryz.prog 199 [.lit (.int .u64 1),.lit (.int .u64 y)] [] (.bG [.lit (.int .u64 0),.lit (.int .u64 y)]) []:=by
  refine an.aD (fn:=Tryz.f199) 51 0 [.tmp 4,.tmp 5] Tryz.func199 rfl rfl rfl rfl rfl (by simp) ?_
  refine Vb (X5 @Et @Eu @acL @p32 (X3 @acN @Int.one_mul @Int.zero_mul)) ?_
  refine aK rfl ?_
  congr 3
  all_goals first|rfl|(congr 2;omega)
theorem acy (y:Int) (hy:0≤y∧y≤9223372036854775807):an Tryz.prog 184 [.lit (.int .u64 1),.lit (.int .u64 y)] [] (.bG [.lit (.int .u64 0),.lit (.int .u64 y)]) []:=by
  refine an.aD (fn:=Tryz.f184) 30 0 [.tmp 4,.tmp 5] Tryz.func184 rfl rfl rfl rfl rfl (by simp) ?_
  ((repeat' (first|refine Vd (X2 @Et @Eu) (acO y hy) ?_|(refine Xi ?_ ?_<;>try intro ht)|exact Xx|fail)))
  exact aK rfl rfl
end T

