import Derived.Test.YtdipcmigdbnheaaGreatX33
import Derived.Test.YtdipcmigdbnheaaGreatX32
import Derived.Test.YtdipcmigdbnheaaGreatX36
set_option linter.unusedVariables false
set_option linter.unusedSimpArgs false
set_option linter.unnecessarySimpa false
set_option linter.unusedSectionVars false
set_option maxHeartbeats 64000000
set_option maxRecDepth 20000
open Nat renaming zero_le→aD,not_lt_zero→mV,min_eq_left→pz
open List renaming length_map→dU,map_append→fB,take→lR,drop→ly,append_assoc→cI,length_append→bJ,length_set→bm,mem_append→cy,length_take→ez,take_of_length_le→dC
open Bool renaming not_false→jx,not_true→gQ
open Go Go.Am Go.Proofs
open Nat (reduceEqDiff reduceAdd reduceLeDiff reduceMul)
open Int (reduceNeg reduceLE reduceToNat)
namespace T
theorem XA (xs:List Nm) (q:Nm):rowsOf bw xs++[[AV.lit (.int .i64 q.1),.lit (.bool q.2)]]=rowsOf bw (xs++[q]):=by simp[rowsOf,bw]
theorem agq {m:ah} (hm:VM m) (sc:m.au=[]) {gi ai bi:Nat} {D E:List (Nat × Nat)} {S T:List (List Nm)} {os:List Ob} (h:LO bw (GB m gi ai bi D E) D E S T os) (hg:LG m kM (S,T)) {left:List (List Bool)} (hf:dN m left) :
    fF Tryz.prog 135 [.ptr gi 0 0,.tree 1 (rowsOf aE left)] os fun r ob=>r=.lit (.int .i64 (mR m left (S,T)))∧os.length≤ob.length:=by
  obtain ⟨fg,fa,fb⟩:=Ij h
  have eg:=a7 fg
  have ea:=a7 fa
  have eb:=a7 fb
  have hD:=h.rD.len
  have hE:=h.rE.len
  have jL:S.length=m.cls.length:=hg.s
  have JJ:T.length=m.ae.length:=hg.t
  have JM:=hm.cls
  have xU:=hm.ae
  have Ga:=hm.au
  have eW:=hf.1
  rw[aa2]
  refine fF.aF (fn:=Tryz.f135) 80 os.length [.tmp 4] Tryz.func135 rfl rfl rfl rfl rfl (by simp) ?_
  ((try revert hK K);(repeat' (first|refine Vb (X3 @fg @fa @gC.eq_1) ?_|(refine V2 (X3 @fg @fa @gC.eq_1) ?_ ?_<;>try with_reducible intro hb)|(refine Xi ?_ ?_<;>try intro ht)|refine VD ?_ ?_|exact Xx|fail))<;>try with_reducible intro K hK)
  all_goals try (exfalso;omega)
  have xZ:D.length=m.cls.length:=by omega
  refine aI (fun z:Nat × List Ob × Nat × List Nm=>(⟨av [(0,.ptr gi 0 0),(1,.tree 1 (rowsOf aE left)),(5,.ref z.2.2.1 2 0 z.2.2.2.length),(17,.lit (.int .i64 m.cls.length)),(18,.lit (.int .i64 z.1))],z.2.1⟩:St))
    (fun z=>z.1≤m.cls.length∧gb os z.2.1∧z.2.1[z.2.2.1]?=some (.arr 2 (rowsOf bw z.2.2.2))∧os.length≤z.2.2.1∧z.2.2.2=(PC left S z.1).map vS)
    (fun z=>m.cls.length - z.1) (0,os++[.arr 2 []],os.length,[]) ⟨aD _,(gb.refl _).app _,jO _ _ _,Nat.le_refl _,rfl⟩ ?_ ?_
  · refine aA.trans (aA.nil 5 2 (by simp only[Kc,simprocAttr]) (by decide)) ?_
    exact Xv @xZ
  rintro ⟨i,ob,ti,ps⟩ ⟨hi,bU,eD,jW,fH⟩ Ql ak aq
  dsimp only at hi bU eD jW fH ⊢
  have dz:ps.length=i:=by rw[fH,dU,zK]
  by_cases hi':i<m.cls.length
  · have qT:=aeo hm (h.fC bU) hg hf i hi'
    have dP:(PC left S (i+1)).map vS=ps++[qJ (iV (S.getD i default) (left.getD i default))]:=by
      rw[show PC left S (i+1)=PC left S i++[c9 (S.getD i default) (left.getD i default) (0,false)] from xH _ i,fB,← fH,OP];rfl
    have Al:=U9 (iV (S.getD i default) (left.getD i default)) (by have:=Io (S.getD i default) (left.getD i default);have:=hg.sl i hi';have:=hm.opt _ (az (d:=default) hi');dsimp only at *;omega)
    generalize iV (S.getD i default) (left.getD i default)=KE at *
    generalize qJ KE=q at *
    repeat' (first|((fail_if_success (first|refine im 5 ?_|refine iq 5 ?_));refine Xr X0 ?_;intro K hK)|refine Xo X0 ?_|(refine hK _ ?_;clear hK K)|(refine Xg X0 ?_ ?_<;>try intro hb)|(refine Xi ?_ ?_<;>try intro ht)|refine Xy ?_|refine Xd ?_ ?_|exact Xx|fail)
    refine sV 4 (by decide) _ rfl ?_
    intro K hK
    simp (disch:=omega) only[Ac,↓Pc,simprocAttr,lR,ly]
    refine⟨rfl,(show nm Tryz.prog 178 [.ptr gi 0 0,.lit (.int .i64 i),.tree 1 (rowsOf aE left)] (some 25) _ _ from ?_)⟩
    refine xN qT ?_
    rintro r C1 ⟨bQ,id,rfl,cN⟩
    refine⟨bQ.len,?_⟩
    have yq:=bQ _ _ eD
    have KF:=a7 yq
    have KG:=fj yq
    have dx:=(bU.trans bQ).len
    simp (disch:=omega) only[Ac,↓Pc,simprocAttr,ly]
    refine nR [] Al (by simp) trivial ⟨aN.fz cN (by rw[b5]) (by simp),trivial⟩ rfl (by simp) ?_
    simp (disch:=omega) only[Ac,↓Pc,simprocAttr,yq,KF,KG,bw,XA,cZ,cI,bJ,bm]
    repeat' (first|with_reducible refine And.intro ?_ ?_|omega|with_reducible rfl)
    refine hK _ ?_;clear hK K
    repeat (first|refine Xu ?_)
    ((try revert hK K);(repeat' (first|refine Va X0 ?_|(refine V2 X0 ?_ ?_<;>try with_reducible intro hb)|(refine Xi ?_ ?_<;>try intro ht)|refine VD ?_ ?_|exact Xx|fail))<;>try with_reducible intro K hK)
    refine ak _ (i+1,C1.set ti .gone++[.arr 2 [bw q],.arr 2 (rowsOf bw (ps++[q]))],C1.length+1,ps++[q]) ⟨by dsimp only;omega,((bU.trans bQ).set jW).app _,xG _ _ _ _ _,by dsimp only;omega,dP.symm⟩ (by dsimp only;omega) ?_
    exact Xv @bw.eq_1
  have Fy:i=m.cls.length:=by omega
  rw[Fy] at fH
  have kg:=bU _ _ fg
  have kb:=bU _ _ fb
  have agr:E.length=m.ae.length:=by omega
  ((try revert hK K);(repeat' (first|refine Va X0 ?_|(refine V2 X0 ?_ ?_<;>try with_reducible intro hb)|(refine Xi ?_ ?_<;>try intro ht)|refine VD ?_ ?_|exact Xx|fail))<;>try with_reducible intro K hK)
  refine aq _ _ rfl ?_;clear ak aq Ql
  repeat (first|refine Xu ?_)
  ((try revert hK K);(repeat' (first|refine Va (X3 @kg @kb @gC.eq_1) ?_|(refine V2 (X3 @kg @kb @gC.eq_1) ?_ ?_<;>try with_reducible intro hb)|(refine Xi ?_ ?_<;>try intro ht)|refine VD ?_ ?_|exact Xx|fail))<;>try with_reducible intro K hK)
  refine aI (fun z:Nat × List Ob × Nat × List Nm=>(⟨av [(0,.ptr gi 0 0),(1,.tree 1 (rowsOf aE left)),(5,.ref z.2.2.1 2 0 z.2.2.2.length),(34,.lit (.int .i64 m.ae.length)),(35,.lit (.int .i64 z.1))],z.2.1⟩:St))
    (fun z=>z.1≤m.ae.length∧gb os z.2.1∧z.2.1[z.2.2.1]?=some (.arr 2 (rowsOf bw z.2.2.2))∧os.length≤z.2.2.1∧z.2.2.2=(PC left S m.cls.length++PP m left T z.1).map vS)
    (fun z=>m.ae.length - z.1) (0,ob,ti,ps) ⟨aD _,bU,eD,jW,by rw[fH];simp[PP]⟩ (Xv @agr) ?_
  clear bU eD jW fH dz Fy kg kb hi hi' ti ps
  rintro ⟨i,ob,ti,ps⟩ ⟨hi,bU,eD,jW,fH⟩ Ql ak aq
  dsimp only at hi bU eD jW fH ⊢
  have dz:ps.length=m.cls.length+i:=by rw[fH,dU,bJ,zK,BL]
  by_cases hi':i<m.ae.length
  · have qT:=aep hm (h.fC bU) hg hf i hi'
    have dP:(PC left S m.cls.length++PP m left T (i+1)).map vS=ps++[qJ (iV (T.getD i default) (gL m left i))]:=by
      rw[show PP m left T (i+1)=PP m left T i++[c9 (T.getD i default) (gL m left i) (0,false)] from xH _ i,← cI,fB,← fH,OP];rfl
    have Al:=U9 (iV (T.getD i default) (gL m left i)) (by have:=Io (T.getD i default) (gL m left i);have:=hg.tl i hi';have:=Cr (jn hm.pr _ (az (d:=default) hi')) hm;dsimp only at *;omega)
    generalize iV (T.getD i default) (gL m left i)=KE at *
    generalize qJ KE=q at *
    repeat' (first|((fail_if_success (first|refine im 10 ?_|refine iq 10 ?_));refine Xr X0 ?_;intro K hK)|refine Xo X0 ?_|(refine hK _ ?_;clear hK K)|(refine Xg X0 ?_ ?_<;>try intro hb)|(refine Xi ?_ ?_<;>try intro ht)|refine Xy ?_|refine Xd ?_ ?_|exact Xx|fail)
    refine sV 4 (by decide) _ rfl ?_
    intro K hK
    simp (disch:=omega) only[Ac,↓Pc,simprocAttr,lR,ly]
    refine⟨rfl,(show nm Tryz.prog 179 [.ptr gi 0 0,.lit (.int .i64 i),.tree 1 (rowsOf aE left)] (some 42) _ _ from ?_)⟩
    refine xN qT ?_
    rintro r C1 ⟨bQ,id,rfl,cN⟩
    refine⟨bQ.len,?_⟩
    have yq:=bQ _ _ eD
    have KF:=a7 yq
    have KG:=fj yq
    have dx:=(bU.trans bQ).len
    simp (disch:=omega) only[Ac,↓Pc,simprocAttr,ly]
    refine nR [] Al (by simp) trivial ⟨aN.fz cN (by rw[b5]) (by simp),trivial⟩ rfl (by simp) ?_
    simp (disch:=omega) only[Ac,↓Pc,simprocAttr,yq,KF,KG,bw,XA,cZ,cI,bJ,bm]
    repeat' (first|with_reducible refine And.intro ?_ ?_|omega|with_reducible rfl)
    refine hK _ ?_;clear hK K
    repeat (first|refine Xu ?_)
    ((try revert hK K);(repeat' (first|refine Va X0 ?_|(refine V2 X0 ?_ ?_<;>try with_reducible intro hb)|(refine Xi ?_ ?_<;>try intro ht)|refine VD ?_ ?_|exact Xx|fail))<;>try with_reducible intro K hK)
    refine ak _ (i+1,C1.set ti .gone++[.arr 2 [bw q],.arr 2 (rowsOf bw (ps++[q]))],C1.length+1,ps++[q]) ⟨by dsimp only;omega,((bU.trans bQ).set jW).app _,xG _ _ _ _ _,by dsimp only;omega,dP.symm⟩ (by dsimp only;omega) ?_
    exact Xv @bw.eq_1
  have FB:i=m.ae.length:=by omega
  rw[FB] at fH
  have kg:=bU _ _ fg
  ((try revert hK K);(repeat' (first|refine Va X0 ?_|(refine V2 X0 ?_ ?_<;>try with_reducible intro hb)|(refine Xi ?_ ?_<;>try intro ht)|refine VD ?_ ?_|exact Xx|fail))<;>try with_reducible intro K hK)
  refine aq _ _ rfl ?_;clear ak aq Ql
  repeat (first|refine Xu ?_)
  ((try revert hK K);(repeat' (first|refine Va (X2 @kg @gC.eq_1) ?_|(refine V2 (X2 @kg @gC.eq_1) ?_ ?_<;>try with_reducible intro hb)|(refine Xi ?_ ?_<;>try intro ht)|refine VD ?_ ?_|exact Xx|fail))<;>try with_reducible intro K hK)
  refine aI (fun z:Nat × List Ob × Nat × List Nm=>(⟨av [(1,.tree 1 (rowsOf aE left)),(5,.ref z.2.2.1 2 0 z.2.2.2.length),(51,.tree 4 (rowsOf aU m.au)),(52,.lit (.int .i64 m.au.length)),(53,.lit (.int .i64 z.1))],z.2.1⟩:St))
    (fun z=>z.1≤m.au.length∧gb os z.2.1∧z.2.1[z.2.2.1]?=some (.arr 2 (rowsOf bw z.2.2.2))∧os.length≤z.2.2.1∧z.2.2.2=(PC left S m.cls.length++PP m left T m.ae.length++PK m left z.1).map vS)
    (fun z=>m.au.length - z.1) (0,ob,ti,ps) ⟨aD _,bU,eD,jW,by rw[fH];simp[PK]⟩ (Xv X0) ?_
  clear bU eD jW fH dz FB kg hi hi' ti ps
  rintro ⟨i,ob,ti,ps⟩ ⟨hi,bU,eD,jW,fH⟩ Ql ak aq
  dsimp only at hi bU eD jW fH ⊢
  have dz:ps.length=m.cls.length+m.ae.length+i:=by rw[fH,dU,bJ,bJ,zK,BL,EJ]
  by_cases hi':i<m.au.length
  · exact absurd hi' (by rw[sc];exact mV _)
  have JE:i=m.au.length:=by omega
  rw[JE] at fH dz
  rw[show PC left S m.cls.length++PP m left T m.ae.length++PK m left m.au.length=uz m left (S,T) from rfl] at fH
  have V0:(uz m left (S,T)).length=m.cls.length+m.ae.length+m.au.length:=by unfold uz;rw[bJ,bJ,zK,BL,EJ]
  have XB:∀ p∈uz m left (S,T),-kM≤p.1∧p.1≤kM:=fun p hp=>by
    unfold uz at hp
    rw[cy,cy] at hp
    rcases hp with (hp | hp) | hp
    · exact Ik (by unfold kM;decide) hg.sb _ p hp
    · exact Il (by unfold kM;decide) hg.tb _ p hp
    · have:=Im hm _ p hp;unfold kM;omega
  generalize uz m left (S,T)=P at *
  ((try revert hK K);(repeat' (first|refine Va X0 ?_|(refine V2 X0 ?_ ?_<;>try with_reducible intro hb)|(refine Xi ?_ ?_<;>try intro ht)|refine VD ?_ ?_|exact Xx|fail))<;>try with_reducible intro K hK)
  refine aq _ _ rfl ?_;clear ak aq Ql
  repeat (first|refine Xu ?_)
  ((try revert hK K);(repeat' (first|refine Va @eD ?_|(refine V2 @eD ?_ ?_<;>try with_reducible intro hb)|(refine Xi ?_ ?_<;>try intro ht)|refine VD ?_ ?_|exact Xx|fail))<;>try with_reducible intro K hK)
  all_goals try (exfalso;omega)
  refine aI (fun z:Nat × List Ob=>(⟨av [(10,.lit (.int .i64 (bH (P.take z.1) (0,false)).1)),(65,.ref ti 2 0 ps.length),(66,.lit (.int .i64 ps.length)),(67,.lit (.int .i64 z.1))],z.2⟩:St))
    (fun z=>z.1≤P.length∧gb os z.2∧z.2[ti]?=some (.arr 2 (rowsOf bw ps))∧(bH (P.take z.1) (0,false)).2=false)
    (fun z=>P.length - z.1) (0,ob) ⟨aD _,bU,eD,rfl⟩ (Xv (X3 @List.take_zero.{0} @bH.eq_1 @List.foldl_nil.{0,0})) ?_
  clear bU eD
  rintro ⟨j,ob⟩ ⟨hj,bU,eD,Gb⟩ Ql ak aq
  dsimp only at hj bU eD Gb ⊢
  have dx:=bU.len
  have ahZ:ps.length=P.length:=by rw[fH,dU]
  by_cases dZ:j<P.length
  · have km:=eu dZ
    have mI:=zI (P.take j) (P.getD j default) (0,false)
    rw[← km,Gb,Bool.false_or] at mI
    have xl:ps.getD j default=vS (P.getD j default):=by rw[fH,iu _ _ _ dZ]
    have jm:=vR (P.take j) (0,false) (fun p hp=>XB p (List.mem_of_mem_take hp))
    rw[ez,pz hj] at jm
    have XC:=XB _ (az (d:=default) dZ)
    have ags:=az (l:=P) (d:=default) dZ
    unfold kM at jm XC
    dsimp only at jm
    generalize (bH (P.take j) (0,false)).1=s at *
    generalize P.getD j default=q at *
    obtain ⟨v,b⟩:=q
    unfold vS at xl
    dsimp only at xl mI XC
    have pX:=a7 eD
    cases b
    · have uH:(bH P (0,false)).2=true:=(OR P 0).2 ⟨_,ags,rfl⟩
      ((try revert hK K);(repeat' (first|refine Va (X5 @eD @pX @xl @bw.eq_1 (X2 @cZ @jx)) ?_|(refine V2 (X5 @eD @pX @xl @bw.eq_1 (X2 @cZ @jx)) ?_ ?_<;>try with_reducible intro hb)|(refine Xi ?_ ?_<;>try intro ht)|refine VD ?_ ?_|exact Xx|fail))<;>try with_reducible intro K hK)
      all_goals try (exfalso;omega)
      repeat (first|refine Xu ?_|(refine a8 _ _ rfl ?_;clear a5 a8;try clear cP)|(refine eX _ _ rfl ?_;clear fl eX;try clear lH)|(refine tn _ _ rfl ?_;clear Jq tn;try clear U2))
      ((try revert hK K);(repeat' (first|refine Vb X0 ?_|(refine V2 X0 ?_ ?_<;>try with_reducible intro hb)|(refine Xi ?_ ?_<;>try intro ht)|refine VD ?_ ?_|exact Xx|fail))<;>try with_reducible intro K hK)
      unfold gH
      simp only[ei,ee]
      simp (disch:=omega) only[Ac,↓Pc,simprocAttr]
      rw[if_pos uH]
      exact⟨_,_,⟨rfl,by rw[bJ];omega⟩,gR rfl (by rw[bJ];omega) rfl⟩
    · ((try revert hK K);(repeat' (first|refine Va (X5 @eD @pX @xl @bw.eq_1 (X2 @cZ @gQ)) ?_|(refine V2 (X5 @eD @pX @xl @bw.eq_1 (X2 @cZ @gQ)) ?_ ?_<;>try with_reducible intro hb)|(refine Xi ?_ ?_<;>try intro ht)|refine VD ?_ ?_|exact Xx|fail))<;>try with_reducible intro K hK)
      all_goals try (exfalso;omega)
      refine ak _ (j+1,_) ⟨by dsimp only;omega,bU.app [.var (bw (v,false))],pX _,by rw[mI];rfl⟩ (by dsimp only;omega) ?_
      simp only[mI]
      exact Xv @bw.eq_1
  · rw[dC (by omega)] at Gb
    have agt:¬ (bH P (0,false)).2=true:=by rw[Gb];simp
    ((try revert hK K);(repeat' (first|refine Va (dC (show P.length≤j by omega)) ?_|(refine V2 (dC (show P.length≤j by omega)) ?_ ?_<;>try with_reducible intro hb)|(refine Xi ?_ ?_<;>try intro ht)|refine VD ?_ ?_|exact Xx|fail))<;>try with_reducible intro K hK)
    refine aq _ _ rfl ?_;clear ak aq Ql
    repeat (first|refine Xu ?_)
    ((try revert hK K);(repeat' (first|refine Vb X0 ?_|(refine V2 X0 ?_ ?_<;>try with_reducible intro hb)|(refine Xi ?_ ?_<;>try intro ht)|refine VD ?_ ?_|exact Xx|fail))<;>try with_reducible intro K hK)
    unfold gH
    simp only[ei,ee]
    simp (disch:=omega) only[Ac,↓Pc,simprocAttr]
    rw[if_neg agt]
    exact⟨_,ob,⟨rfl,dx⟩,gR rfl dx rfl⟩
theorem LG.agu {m:ah} {B C:Int} {g:Lg} (h:LG m B g) (hc:B≤C):LG m C g:=⟨h.s,h.t,h.sl,h.tl,fun r hr=>(h.sb r hr).mono hc,fun r hr=>(h.tb r hr).mono hc⟩
theorem agv (m:ah) (left:List (List Bool)) (l:List Mv) (hl0:l=[]) (sc:m.au=[]) (hm:VM m) (hf:dN m left) (hl:l.length<9223372036854775808):ao Tryz.prog 77 [.agg (ar m),.tree 1 (rowsOf aE left),.tree 4 (rowsOf fO l)] [] (.bL [.lit (.int .i64 (iw m left l).1),.lit (.int .i64 (iw m left l).2)]) []:=by
  generalize an:iw m left l=res
  unfold iw at an
  refine ao.aF (fn:=Tryz.f77) 33 0 [.tmp 6,.tmp 7] Tryz.func77 rfl rfl rfl rfl rfl (by simp) ?_
  have hlen:¬ 2000<l.length:=by rw[hl0];decide
  rw[if_neg hlen] at an
  repeat' (first|((fail_if_success (first|refine im 3 ?_|refine iq 3 ?_));refine Xr X0 ?_;intro K hK)|refine Xo X0 ?_|(refine hK _ ?_;clear hK K)|(refine Xg X0 ?_ ?_<;>try intro hb)|(refine Xi ?_ ?_<;>try intro ht)|refine XY ?_|refine Xd ?_ ?_|exact Xx|fail)
  all_goals try (exfalso;omega)
  refine sV 1 (by decide) _ rfl ?_
  intro K hK
  simp (disch:=omega) only[Ac,↓Pc,simprocAttr,lR,ly]
  refine⟨rfl,(show nm Tryz.prog 132 [.agg (ar m)] (some 15) _ _ from ?_)⟩
  refine xN (aeh hm [.var (ar m)]) ?_
  rintro r os ⟨gi,ai,bi,D,E,rfl,iz,bU⟩
  refine⟨bU.len,?_⟩
  have f0:=bU 0 _ rfl
  simp (disch:=omega) only[Ac,↓Pc,simprocAttr,ly]
  refine hK _ ?_;clear hK K
  repeat (first|refine Xu ?_)
  ((try revert hK K);(repeat' (first|refine Va X0 ?_|(refine V2 X0 ?_ ?_<;>try with_reducible intro hb)|(refine Xi ?_ ?_<;>try intro ht)|refine VD ?_ ?_|exact Xx|fail))<;>try with_reducible intro K hK)
  refine aI (fun z:Nat × List Ob=>(⟨av [(1,.tree 1 (rowsOf aE left)),(8,.ptr gi 0 0),(16,.tree 4 (rowsOf fO l)),(17,.lit (.int .i64 l.length)),(18,.lit (.int .i64 z.1))],z.2⟩:St))
    (fun z=>z.1≤l.length∧LO bw (GB m gi ai bi D E) D E (iW m (l.take z.1) (S0 m,T0 m)).1 (iW m (l.take z.1) (S0 m,T0 m)).2 z.2∧∀ x∈l.take z.1,kK m x=true)
    (fun z=>l.length - z.1) (0,os) ⟨aD _,iz,by simp⟩ (Xv X0) ?_
  clear iz bU f0
  rintro ⟨i,ob⟩ ⟨hi,iz,fq⟩ Ql ak aq
  dsimp only at hi iz fq ⊢
  have jU:=(EI hm (l.take i) fq)
  rw[ez,pz hi] at jU
  by_cases hi':i<l.length
  · exact absurd hi' (by rw[hl0];exact mV _)
  · rw[dC (by omega)] at iz jU fq
    rw[if_neg (by rw[Bool.not_eq_false];exact List.all_eq_true.2 fq)] at an
    generalize iW m l (S0 m,T0 m)=g at *
    obtain ⟨g1,g2⟩:=g
    dsimp only at iz
    have hval:=agq hm sc iz (jU.agu (by unfold kM;omega)) hf
    ((try revert hK K);(repeat' (first|refine Va X0 ?_|(refine V2 X0 ?_ ?_<;>try with_reducible intro hb)|(refine Xi ?_ ?_<;>try intro ht)|refine VD ?_ ?_|exact Xx|fail))<;>try with_reducible intro K hK)
    refine aq _ _ rfl ?_;clear ak aq Ql
    repeat (first|refine Xu ?_)
    repeat' (first|((fail_if_success (first|refine im 11 ?_|refine iq 11 ?_));refine Xr X0 ?_;intro K hK)|refine Xo X0 ?_|(refine hK _ ?_;clear hK K)|(refine Xg X0 ?_ ?_<;>try intro hb)|(refine Xi ?_ ?_<;>try intro ht)|refine Xy ?_|refine Xd ?_ ?_|exact Xx|fail)
    refine sV 2 (by decide) _ rfl ?_
    intro K hK
    simp (disch:=omega) only[Ac,↓Pc,simprocAttr,lR,ly]
    refine⟨rfl,(show nm Tryz.prog 135 [.ptr gi 0 0,.tree 1 (rowsOf aE left)] (some 32) _ _ from ?_)⟩
    refine xN hval ?_
    rintro r ob3 ⟨rfl,sQ⟩
    refine⟨sQ,?_⟩
    simp (disch:=omega) only[Ac,↓Pc,simprocAttr,ly]
    refine hK _ ?_;clear hK K
    repeat (first|refine Xu ?_)
    subst an
    ((try revert hK K);(repeat' (first|refine Vb X0 ?_|(refine V2 X0 ?_ ?_<;>try with_reducible intro hb)|(refine Xi ?_ ?_<;>try intro ht)|refine VD ?_ ?_|exact Xx|fail))<;>try with_reducible intro K hK)
    exact aC rfl rfl
theorem agw (m:ah) (P:List Nd) (h0:∀ x∈P,x.cY=[]∧x.cM=[]) (sc:m.au=[]) (hP:PB P) (hm:VM m) (b:Int) (s:dg) (hs:ya m P s) :
    ao Tryz.prog 75 [.agg [.lit (.int .i64 s.1),.tree 1 (rowsOf aE s.2.1)],.ptr 1 0 0,.ptr 0 0 0,.ptr 2 0 0] [.var (ar m),.var (aJ P),.var [.lit (.int .i64 b)]] (.lit (.bool (gj m P b s).2)) [.var (ar m),.var (aJ P),.var [.lit (.int .i64 (gj m P b s).1)]]:=by
  obtain ⟨i,left,ab⟩:=s
  have hi:i<P.length:=hs.1
  have hf:dN m left:=hs.2.1
  have xE:=hP.zB
  have bR:P.getD i default=nd P i:=rfl
  have cp:=az (l:=P) (i:=i) (d:=default) hi
  have b2:=hP.cY _ cp
  generalize an:gj m P b (i,left,ab)=res
  unfold gj at an
  rw[bR] at b2
  dsimp only at an
  obtain ⟨rQ,ni⟩:=h0 _ cp
  rw[bR] at rQ ni
  have wq:=agv m left (nd P i).cY rQ sc hm hf b2
  generalize iw m left (nd P i).cY=lt at *
  generalize bA:nd P i=x at *
  obtain ⟨c,kids,cY,cM,cells⟩:=x
  obtain ⟨v,e⟩:=lt
  dsimp only at *
  refine ao.aF (fn:=Tryz.f75) 41 3 [.tmp 5] Tryz.func75 rfl rfl rfl rfl rfl (by simp) ?_
  by_cases hc:c = -1
  rotate_left
  · rw[if_pos hc] at an
    ((try revert hK K);(repeat' (first|refine Vb (X3 @aJ.eq_1 @bR @aM.eq_1) ?_|(refine V2 (X3 @aJ.eq_1 @bR @aM.eq_1) ?_ ?_<;>try with_reducible intro hb)|(refine Xi ?_ ?_<;>try intro ht)|refine VD ?_ ?_|exact Xx|fail))<;>try with_reducible intro K hK)
    all_goals try (exfalso;omega)
    subst an
    exact Xw false [0,1,2] @aJ.eq_1
  rw[if_neg (by omega)] at an
  have hg:¬ 0<cM.length:=by rw[ni];decide
  rw[if_neg hg] at an
  ((try revert hK K);(repeat' (first|refine Vd (X3 @aJ.eq_1 @bR @aM.eq_1) wq ?_|(refine V2 (X3 @aJ.eq_1 @bR @aM.eq_1) ?_ ?_<;>try with_reducible intro hb)|(refine Xi ?_ ?_<;>try intro ht)|refine VD ?_ ?_|exact Xx|fail))<;>try with_reducible intro K hK)
  all_goals try (exfalso;omega)
  subst an
  exact Xw false [0,1,2] @aJ.eq_1
theorem Z3 (m:ah) (P:List Nd) (h0:∀ x∈P,x.cY=[]∧x.cM=[]) (sc:m.au=[]) (hm:MB m) (hP:PB P):ao Tryz.prog 40 [.agg (ar m),.agg (aJ P)] [] (.bL [.lit (.int .i64 (lG m P).1),.lit (.bool (lG m P).2)]) []:=by
  have hw:=adR m P hm hP (fun _=>.var (ar m)) (fun _=>.var (aJ P)) (fun b:Int=>.var [.lit (.int .i64 b)]) [.ptr 1 0 0,.ptr 0 0 0,.ptr 2 0 0] 75 (gj m P) (Inv:=fun _ _=>True)
    ⟨fun ρ h0 h1 h2 a=>⟨rfl,rfl,rfl⟩,fun ρ h0 h1 h2 v hv=>by
      simp only[List.mem_cons,List.not_mem_nil,or_false] at hv
      rcases hv with rfl | rfl | rfl<;>simp only[aX,h0,h1,h2],fun _ _ _ _ _=>trivial,fun b9 a s _ hs _=>agw m P h0 sc hP b9 a s hs⟩ 1099511627776 (fun _ _=>trivial)
  generalize an:lG m P=res
  unfold lG at an
  generalize ph m P (gj m P) 1099511627776=r at *
  obtain ⟨b,ok⟩:=r
  dsimp only at hw an
  refine ao.aF (fn:=Tryz.f40) 15 0 [.tmp 4,.tmp 5] Tryz.func40 rfl rfl rfl rfl rfl (by simp) ?_
  ((try revert hK K);(repeat' (first|refine Vb @aJ.eq_1 ?_|(refine V2 @aJ.eq_1 ?_ ?_<;>try with_reducible intro hb)|(refine Xi ?_ ?_<;>try intro ht)|refine VD ?_ ?_|exact Xx|fail))<;>try with_reducible intro K hK)
  refine mD hw (by simp) ?_
  cases ok
  · rw[if_neg (by simp)] at an
    ((try revert hK K);(repeat' (first|refine Vb @jx ?_|(refine V2 @jx ?_ ?_<;>try with_reducible intro hb)|(refine Xi ?_ ?_<;>try intro ht)|refine VD ?_ ?_|exact Xx|fail))<;>try with_reducible intro K hK)
    subst an
    exact aC rfl rfl
  · rw[if_pos rfl] at an
    ((try revert hK K);(repeat' (first|refine Vb @gQ ?_|(refine V2 @gQ ?_ ?_<;>try with_reducible intro hb)|(refine Xi ?_ ?_<;>try intro ht)|refine VD ?_ ?_|exact Xx|fail))<;>try with_reducible intro K hK)
    subst an
    exact aC rfl rfl
end T

