import Derived.Test.YtdipcmigdbnheaaGreatX24
import Derived.Test.YtdipcmigdbnheaaGreatX25
import Derived.Test.YtdipcmigdbnheaaGreatX31
set_option linter.unusedVariables false
set_option linter.unusedSimpArgs false
set_option linter.unnecessarySimpa false
set_option linter.unusedSectionVars false
set_option maxHeartbeats 64000000
set_option maxRecDepth 20000
open Nat renaming zero_le→aM,not_lt_zero→v9,min_eq_left→sj
open List renaming length_map→ey,map_append→gW,take→kW,drop→ky,append_assoc→dI,length_append→bV,length_set→bI,mem_append→cr,length_take→gV,take_of_length_le→fN
open Bool renaming not_false→nw,not_true→lR
open Go Go.Am Go.Proofs
open Nat (reduceEqDiff reduceAdd reduceLeDiff reduceMul)
open Int (reduceNeg reduceLE reduceToNat)
namespace T
theorem VT (xs:List Nm) (q:Nm):rowsOf bC xs++[[AV.lit (.int .i64 q.1),.lit (.bool q.2)]]=rowsOf bC (xs++[q]):=by simp[rowsOf,bC]
theorem aeC {m:aj} (hm:VM m) (pL:m.au=[]) {gi ai bi:Nat} {D E:List (Nat × Nat)} {S T:List (List Nm)} {os:List Ob} (h:LO bC (GB m gi ai bi D E) D E S T os) (hg:LG m vN (S,T)) {left:List (List Bool)} (hf:eG m left) :
    eO Tryz.prog 135 [.ptr gi 0 0,.tree 1 (rowsOf bg left)] os fun r ob=>r=.lit (.int .i64 (nh m left (S,T)))∧os.length≤ob.length:=by
  obtain ⟨fg,fa,fb⟩:=H5 h
  have eg:=bK fg
  have ea:=bK fa
  have eb:=bK fb
  have hD:=h.rD.len
  have hE:=h.rE.len
  have jS:S.length=m.cls.length:=hg.s
  have Ix:T.length=m.ae.length:=hg.t
  have Ik:=hm.cls
  have yN:=hm.ae
  have xA:=hm.au
  have eP:=hf.1
  rw[abr]
  refine eO.aD (fn:=Tryz.f135) 80 os.length [.tmp 4] Tryz.func135 rfl rfl rfl rfl rfl (by simp) ?_
  ((try revert hK K);(repeat' (first|refine Vb (X3 @fg @fa @gC.eq_1) ?_|(refine V2 (X3 @fg @fa @gC.eq_1) ?_ ?_<;>try with_reducible intro hb)|(refine Xi ?_ ?_<;>try intro ht)|refine VD ?_ ?_|exact Xx|fail))<;>try with_reducible intro K hK)
  all_goals try (exfalso;omega)
  have hDl:D.length=m.cls.length:=by omega
  refine aU (fun z:Nat × List Ob × Nat × List Nm=>(⟨aw [(0,.ptr gi 0 0),(1,.tree 1 (rowsOf bg left)),(5,.ref z.2.2.1 2 0 z.2.2.2.length),(17,.lit (.int .i64 m.cls.length)),(18,.lit (.int .i64 z.1))],z.2.1⟩:St))
    (fun z=>z.1≤m.cls.length∧ga os z.2.1∧z.2.1[z.2.2.1]?=some (.arr 2 (rowsOf bC z.2.2.2))∧os.length≤z.2.2.1∧z.2.2.2=(PC left S z.1).map vJ)
    (fun z=>m.cls.length - z.1) (0,os++[.arr 2 []],os.length,[]) ⟨aM _,(ga.refl _).app _,mi _ _ _,Nat.le_refl _,rfl⟩ ?_ ?_
  · refine aB.trans (aB.nil 5 2 (by simp only[Kc,simprocAttr]) (by decide)) ?_
    exact Xv @hDl
  rintro ⟨i,ob,ti,ps⟩ ⟨hi,bQ,fy,ln,fH⟩ Ql aq av
  dsimp only at hi bQ fy ln fH ⊢
  have cq:ps.length=i:=by rw[fH,ey,Ef]
  by_cases hi':i<m.cls.length
  · have vG:=acQ hm (h.ax bQ) hg hf i hi'
    have gm:(PC left S (i+1)).map vJ=ps++[qK (jl (S.getD i default) (left.getD i default))]:=by
      rw[show PC left S (i+1)=PC left S i++[fx (S.getD i default) (left.getD i default) (0,false)] from D9 _ i,gW,← fH,R'];rfl
    have Ji:=TC (jl (S.getD i default) (left.getD i default)) (by have:=HH (S.getD i default) (left.getD i default);have:=hg.sl i hi';have:=hm.opt _ (aC (d:=default) hi');dsimp only at *;omega)
    generalize jl (S.getD i default) (left.getD i default)=Jj at *
    generalize qK Jj=q at *
    repeat' (first|((fail_if_success (first|refine ej 5 ?_|refine ek 5 ?_));refine Xr X0 ?_;intro K hK)|refine Xo X0 ?_|(refine hK _ ?_;clear hK K)|(refine Xg X0 ?_ ?_<;>try intro hb)|(refine Xi ?_ ?_<;>try intro ht)|refine Xy ?_|refine Xd ?_ ?_|exact Xx|fail)
    refine qv 4 (by decide) _ rfl ?_
    intro K hK
    simp (disch:=omega) only[Ac,↓Pc,simprocAttr,kW,ky]
    refine⟨rfl,(show lZ Tryz.prog 178 [.ptr gi 0 0,.lit (.int .i64 i),.tree 1 (rowsOf bg left)] (some 25) _ _ from ?_)⟩
    refine vo vG ?_
    rintro r BT ⟨bS,id,rfl,cV⟩
    refine⟨bS.len,?_⟩
    have xD:=bS _ _ fy
    have Jk:=bK xD
    have Jl:=hU xD
    have cw:=(bQ.trans bS).len
    simp (disch:=omega) only[Ac,↓Pc,simprocAttr,ky]
    refine nI [] Ji (by simp) trivial ⟨aE.fz cV (by rw[b8]) (by simp),trivial⟩ rfl (by simp) ?_
    simp (disch:=omega) only[Ac,↓Pc,simprocAttr,xD,Jk,Jl,bC,VT,dC,dI,bV,bI]
    repeat' (first|with_reducible refine And.intro ?_ ?_|omega|with_reducible rfl)
    refine hK _ ?_;clear hK K
    repeat (first|refine Xu ?_)
    ((try revert hK K);(repeat' (first|refine Va X0 ?_|(refine V2 X0 ?_ ?_<;>try with_reducible intro hb)|(refine Xi ?_ ?_<;>try intro ht)|refine VD ?_ ?_|exact Xx|fail))<;>try with_reducible intro K hK)
    refine aq _ (i+1,BT.set ti .gone++[.arr 2 [bC q],.arr 2 (rowsOf bC (ps++[q]))],BT.length+1,ps++[q]) ⟨by dsimp only;omega,((bQ.trans bS).set ln).app _,zf _ _ _ _ _,by dsimp only;omega,gm.symm⟩ (by dsimp only;omega) ?_
    exact Xv @bC.eq_1
  have VU:i=m.cls.length:=by omega
  rw[VU] at fH
  have kg:=bQ _ _ fg
  have kb:=bQ _ _ fb
  have aeE:E.length=m.ae.length:=by omega
  ((try revert hK K);(repeat' (first|refine Va X0 ?_|(refine V2 X0 ?_ ?_<;>try with_reducible intro hb)|(refine Xi ?_ ?_<;>try intro ht)|refine VD ?_ ?_|exact Xx|fail))<;>try with_reducible intro K hK)
  refine av _ _ rfl ?_;clear aq av Ql
  repeat (first|refine Xu ?_)
  ((try revert hK K);(repeat' (first|refine Va (X3 @kg @kb @gC.eq_1) ?_|(refine V2 (X3 @kg @kb @gC.eq_1) ?_ ?_<;>try with_reducible intro hb)|(refine Xi ?_ ?_<;>try intro ht)|refine VD ?_ ?_|exact Xx|fail))<;>try with_reducible intro K hK)
  refine aU (fun z:Nat × List Ob × Nat × List Nm=>(⟨aw [(0,.ptr gi 0 0),(1,.tree 1 (rowsOf bg left)),(5,.ref z.2.2.1 2 0 z.2.2.2.length),(34,.lit (.int .i64 m.ae.length)),(35,.lit (.int .i64 z.1))],z.2.1⟩:St))
    (fun z=>z.1≤m.ae.length∧ga os z.2.1∧z.2.1[z.2.2.1]?=some (.arr 2 (rowsOf bC z.2.2.2))∧os.length≤z.2.2.1∧z.2.2.2=(PC left S m.cls.length++PP m left T z.1).map vJ)
    (fun z=>m.ae.length - z.1) (0,ob,ti,ps) ⟨aM _,bQ,fy,ln,by rw[fH];simp[PP]⟩ (Xv @aeE) ?_
  clear bQ fy ln fH cq VU kg kb hi hi' ti ps
  rintro ⟨i,ob,ti,ps⟩ ⟨hi,bQ,fy,ln,fH⟩ Ql aq av
  dsimp only at hi bQ fy ln fH ⊢
  have cq:ps.length=m.cls.length+i:=by rw[fH,ey,bV,Ef,HX]
  by_cases hi':i<m.ae.length
  · have vG:=acS hm (h.ax bQ) hg hf i hi'
    have gm:(PC left S m.cls.length++PP m left T (i+1)).map vJ=ps++[qK (jl (T.getD i default) (kP m left i))]:=by
      rw[show PP m left T (i+1)=PP m left T i++[fx (T.getD i default) (kP m left i) (0,false)] from D9 _ i,← dI,gW,← fH,R'];rfl
    have Ji:=TC (jl (T.getD i default) (kP m left i)) (by have:=HH (T.getD i default) (kP m left i);have:=hg.tl i hi';have:=Iu (jh hm.pr _ (aC (d:=default) hi')) hm;dsimp only at *;omega)
    generalize jl (T.getD i default) (kP m left i)=Jj at *
    generalize qK Jj=q at *
    repeat' (first|((fail_if_success (first|refine ej 10 ?_|refine ek 10 ?_));refine Xr X0 ?_;intro K hK)|refine Xo X0 ?_|(refine hK _ ?_;clear hK K)|(refine Xg X0 ?_ ?_<;>try intro hb)|(refine Xi ?_ ?_<;>try intro ht)|refine Xy ?_|refine Xd ?_ ?_|exact Xx|fail)
    refine qv 4 (by decide) _ rfl ?_
    intro K hK
    simp (disch:=omega) only[Ac,↓Pc,simprocAttr,kW,ky]
    refine⟨rfl,(show lZ Tryz.prog 179 [.ptr gi 0 0,.lit (.int .i64 i),.tree 1 (rowsOf bg left)] (some 42) _ _ from ?_)⟩
    refine vo vG ?_
    rintro r BT ⟨bS,id,rfl,cV⟩
    refine⟨bS.len,?_⟩
    have xD:=bS _ _ fy
    have Jk:=bK xD
    have Jl:=hU xD
    have cw:=(bQ.trans bS).len
    simp (disch:=omega) only[Ac,↓Pc,simprocAttr,ky]
    refine nI [] Ji (by simp) trivial ⟨aE.fz cV (by rw[b8]) (by simp),trivial⟩ rfl (by simp) ?_
    simp (disch:=omega) only[Ac,↓Pc,simprocAttr,xD,Jk,Jl,bC,VT,dC,dI,bV,bI]
    repeat' (first|with_reducible refine And.intro ?_ ?_|omega|with_reducible rfl)
    refine hK _ ?_;clear hK K
    repeat (first|refine Xu ?_)
    ((try revert hK K);(repeat' (first|refine Va X0 ?_|(refine V2 X0 ?_ ?_<;>try with_reducible intro hb)|(refine Xi ?_ ?_<;>try intro ht)|refine VD ?_ ?_|exact Xx|fail))<;>try with_reducible intro K hK)
    refine aq _ (i+1,BT.set ti .gone++[.arr 2 [bC q],.arr 2 (rowsOf bC (ps++[q]))],BT.length+1,ps++[q]) ⟨by dsimp only;omega,((bQ.trans bS).set ln).app _,zf _ _ _ _ _,by dsimp only;omega,gm.symm⟩ (by dsimp only;omega) ?_
    exact Xv @bC.eq_1
  have VV:i=m.ae.length:=by omega
  rw[VV] at fH
  have kg:=bQ _ _ fg
  ((try revert hK K);(repeat' (first|refine Va X0 ?_|(refine V2 X0 ?_ ?_<;>try with_reducible intro hb)|(refine Xi ?_ ?_<;>try intro ht)|refine VD ?_ ?_|exact Xx|fail))<;>try with_reducible intro K hK)
  refine av _ _ rfl ?_;clear aq av Ql
  repeat (first|refine Xu ?_)
  ((try revert hK K);(repeat' (first|refine Va (X2 @kg @gC.eq_1) ?_|(refine V2 (X2 @kg @gC.eq_1) ?_ ?_<;>try with_reducible intro hb)|(refine Xi ?_ ?_<;>try intro ht)|refine VD ?_ ?_|exact Xx|fail))<;>try with_reducible intro K hK)
  refine aU (fun z:Nat × List Ob × Nat × List Nm=>(⟨aw [(1,.tree 1 (rowsOf bg left)),(5,.ref z.2.2.1 2 0 z.2.2.2.length),(51,.tree 4 (rowsOf aO m.au)),(52,.lit (.int .i64 m.au.length)),(53,.lit (.int .i64 z.1))],z.2.1⟩:St))
    (fun z=>z.1≤m.au.length∧ga os z.2.1∧z.2.1[z.2.2.1]?=some (.arr 2 (rowsOf bC z.2.2.2))∧os.length≤z.2.2.1∧z.2.2.2=(PC left S m.cls.length++PP m left T m.ae.length++PK m left z.1).map vJ)
    (fun z=>m.au.length - z.1) (0,ob,ti,ps) ⟨aM _,bQ,fy,ln,by rw[fH];simp[PK]⟩ (Xv X0) ?_
  clear bQ fy ln fH cq VV kg hi hi' ti ps
  rintro ⟨i,ob,ti,ps⟩ ⟨hi,bQ,fy,ln,fH⟩ Ql aq av
  dsimp only at hi bQ fy ln fH ⊢
  have cq:ps.length=m.cls.length+m.ae.length+i:=by rw[fH,ey,bV,bV,Ef,HX,S2]
  by_cases hi':i<m.au.length
  · exact absurd hi' (by rw[pL];exact v9 _)
  have hiK:i=m.au.length:=by omega
  rw[hiK] at fH cq
  rw[show PC left S m.cls.length++PP m left T m.ae.length++PK m left m.au.length=uv m left (S,T) from rfl] at fH
  have T3:(uv m left (S,T)).length=m.cls.length+m.ae.length+m.au.length:=by unfold uv;rw[bV,bV,Ef,HX,S2]
  have VW:∀ p∈uv m left (S,T),-vN≤p.1∧p.1≤vN:=fun p hp=>by
    unfold uv at hp
    rw[cr,cr] at hp
    rcases hp with (hp | hp) | hp
    · exact abQ (by unfold vN;decide) hg.sb _ p hp
    · exact abR (by unfold vN;decide) hg.tb _ p hp
    · have:=abU hm _ p hp;unfold vN;omega
  generalize uv m left (S,T)=P at *
  ((try revert hK K);(repeat' (first|refine Va X0 ?_|(refine V2 X0 ?_ ?_<;>try with_reducible intro hb)|(refine Xi ?_ ?_<;>try intro ht)|refine VD ?_ ?_|exact Xx|fail))<;>try with_reducible intro K hK)
  refine av _ _ rfl ?_;clear aq av Ql
  repeat (first|refine Xu ?_)
  ((try revert hK K);(repeat' (first|refine Va @fy ?_|(refine V2 @fy ?_ ?_<;>try with_reducible intro hb)|(refine Xi ?_ ?_<;>try intro ht)|refine VD ?_ ?_|exact Xx|fail))<;>try with_reducible intro K hK)
  all_goals try (exfalso;omega)
  refine aU (fun z:Nat × List Ob=>(⟨aw [(10,.lit (.int .i64 (cN (P.take z.1) (0,false)).1)),(65,.ref ti 2 0 ps.length),(66,.lit (.int .i64 ps.length)),(67,.lit (.int .i64 z.1))],z.2⟩:St))
    (fun z=>z.1≤P.length∧ga os z.2∧z.2[ti]?=some (.arr 2 (rowsOf bC ps))∧(cN (P.take z.1) (0,false)).2=false)
    (fun z=>P.length - z.1) (0,ob) ⟨aM _,bQ,fy,rfl⟩ (Xv (X3 @List.take_zero.{0} @cN.eq_1 @List.foldl_nil.{0,0})) ?_
  clear bQ fy
  rintro ⟨j,ob⟩ ⟨hj,bQ,fy,EW⟩ Ql aq av
  dsimp only at hj bQ fy EW ⊢
  have cw:=bQ.len
  have aga:ps.length=P.length:=by rw[fH,ey]
  by_cases c9:j<P.length
  · have rI:=iD c9
    have oH:=HM (P.take j) (P.getD j default) (0,false)
    rw[← rI,EW,Bool.false_or] at oH
    have wU:ps.getD j default=vJ (P.getD j default):=by rw[fH,iG _ _ _ c9]
    have rJ:=S1 (P.take j) (0,false) (fun p hp=>VW p (List.mem_of_mem_take hp))
    rw[gV,sj hj] at rJ
    have VX:=VW _ (aC (d:=default) c9)
    have aeG:=aC (l:=P) (d:=default) c9
    unfold vN at rJ VX
    dsimp only at rJ
    generalize (cN (P.take j) (0,false)).1=s at *
    generalize P.getD j default=q at *
    obtain ⟨v,b⟩:=q
    unfold vJ at wU
    dsimp only at wU oH VX
    have rX:=bK fy
    cases b
    · have uq:(cN P (0,false)).2=true:=(Sb P 0).2 ⟨_,aeG,rfl⟩
      ((try revert hK K);(repeat' (first|refine Va (X5 @fy @rX @wU @bC.eq_1 (X2 @dC @nw)) ?_|(refine V2 (X5 @fy @rX @wU @bC.eq_1 (X2 @dC @nw)) ?_ ?_<;>try with_reducible intro hb)|(refine Xi ?_ ?_<;>try intro ht)|refine VD ?_ ?_|exact Xx|fail))<;>try with_reducible intro K hK)
      all_goals try (exfalso;omega)
      repeat (first|refine Xu ?_|(refine bM _ _ rfl ?_;clear bP bM;try clear eo)|(refine eV _ _ rfl ?_;clear gM eV;try clear ma)|(refine lh _ _ rfl ?_;clear vr lh;try clear w5))
      ((try revert hK K);(repeat' (first|refine Vb X0 ?_|(refine V2 X0 ?_ ?_<;>try with_reducible intro hb)|(refine Xi ?_ ?_<;>try intro ht)|refine VD ?_ ?_|exact Xx|fail))<;>try with_reducible intro K hK)
      unfold fU
      simp only[dX,dQ]
      simp (disch:=omega) only[Ac,↓Pc,simprocAttr]
      rw[if_pos uq]
      exact⟨_,_,⟨rfl,by rw[bV];omega⟩,fJ rfl (by rw[bV];omega) rfl⟩
    · ((try revert hK K);(repeat' (first|refine Va (X5 @fy @rX @wU @bC.eq_1 (X2 @dC @lR)) ?_|(refine V2 (X5 @fy @rX @wU @bC.eq_1 (X2 @dC @lR)) ?_ ?_<;>try with_reducible intro hb)|(refine Xi ?_ ?_<;>try intro ht)|refine VD ?_ ?_|exact Xx|fail))<;>try with_reducible intro K hK)
      all_goals try (exfalso;omega)
      refine aq _ (j+1,_) ⟨by dsimp only;omega,bQ.app [.var (bC (v,false))],rX _,by rw[oH];rfl⟩ (by dsimp only;omega) ?_
      simp only[oH]
      exact Xv @bC.eq_1
  · rw[fN (by omega)] at EW
    have aeH:¬ (cN P (0,false)).2=true:=by rw[EW];simp
    ((try revert hK K);(repeat' (first|refine Va (fN (show P.length≤j by omega)) ?_|(refine V2 (fN (show P.length≤j by omega)) ?_ ?_<;>try with_reducible intro hb)|(refine Xi ?_ ?_<;>try intro ht)|refine VD ?_ ?_|exact Xx|fail))<;>try with_reducible intro K hK)
    refine av _ _ rfl ?_;clear aq av Ql
    repeat (first|refine Xu ?_)
    ((try revert hK K);(repeat' (first|refine Vb X0 ?_|(refine V2 X0 ?_ ?_<;>try with_reducible intro hb)|(refine Xi ?_ ?_<;>try intro ht)|refine VD ?_ ?_|exact Xx|fail))<;>try with_reducible intro K hK)
    unfold fU
    simp only[dX,dQ]
    simp (disch:=omega) only[Ac,↓Pc,simprocAttr]
    rw[if_neg aeH]
    exact⟨_,ob,⟨rfl,cw⟩,fJ rfl cw rfl⟩
theorem LG.aeI {m:aj} {B C:Int} {g:Lg} (h:LG m B g) (hc:B≤C):LG m C g:=⟨h.s,h.t,h.sl,h.tl,fun r hr=>(h.sb r hr).mono hc,fun r hr=>(h.tb r hr).mono hc⟩
theorem aeJ (m:aj) (left:List (List Bool)) (l:List Mv) (hl0:l=[]) (pL:m.au=[]) (hm:VM m) (hf:eG m left) (hl:l.length<9223372036854775808):an Tryz.prog 77 [.agg (ar m),.tree 1 (rowsOf bg left),.tree 4 (rowsOf vC l)] [] (.bG [.lit (.int .i64 (kR m left l).1),.lit (.int .i64 (kR m left l).2)]) []:=by
  generalize ao:kR m left l=res
  unfold kR at ao
  refine an.aD (fn:=Tryz.f77) 33 0 [.tmp 6,.tmp 7] Tryz.func77 rfl rfl rfl rfl rfl (by simp) ?_
  have hlen:¬ 2000<l.length:=by rw[hl0];decide
  rw[if_neg hlen] at ao
  repeat' (first|((fail_if_success (first|refine ej 3 ?_|refine ek 3 ?_));refine Xr X0 ?_;intro K hK)|refine Xo X0 ?_|(refine hK _ ?_;clear hK K)|(refine Xg X0 ?_ ?_<;>try intro hb)|(refine Xi ?_ ?_<;>try intro ht)|refine XY ?_|refine Xd ?_ ?_|exact Xx|fail)
  all_goals try (exfalso;omega)
  refine qv 1 (by decide) _ rfl ?_
  intro K hK
  simp (disch:=omega) only[Ac,↓Pc,simprocAttr,kW,ky]
  refine⟨rfl,(show lZ Tryz.prog 132 [.agg (ar m)] (some 15) _ _ from ?_)⟩
  refine vo (acH hm [.var (ar m)]) ?_
  rintro r os ⟨gi,ai,bi,D,E,rfl,xE,bQ⟩
  refine⟨bQ.len,?_⟩
  have f0:=bQ 0 _ rfl
  simp (disch:=omega) only[Ac,↓Pc,simprocAttr,ky]
  refine hK _ ?_;clear hK K
  repeat (first|refine Xu ?_)
  ((try revert hK K);(repeat' (first|refine Va X0 ?_|(refine V2 X0 ?_ ?_<;>try with_reducible intro hb)|(refine Xi ?_ ?_<;>try intro ht)|refine VD ?_ ?_|exact Xx|fail))<;>try with_reducible intro K hK)
  refine aU (fun z:Nat × List Ob=>(⟨aw [(1,.tree 1 (rowsOf bg left)),(8,.ptr gi 0 0),(16,.tree 4 (rowsOf vC l)),(17,.lit (.int .i64 l.length)),(18,.lit (.int .i64 z.1))],z.2⟩:St))
    (fun z=>z.1≤l.length∧LO bC (GB m gi ai bi D E) D E (mK m (l.take z.1) (S0 m,T0 m)).1 (mK m (l.take z.1) (S0 m,T0 m)).2 z.2∧∀ x∈l.take z.1,o6 m x=true)
    (fun z=>l.length - z.1) (0,os) ⟨aM _,xE,by simp⟩ (Xv X0) ?_
  clear xE bQ f0
  rintro ⟨i,ob⟩ ⟨hi,xE,kQ⟩ Ql aq av
  dsimp only at hi xE kQ ⊢
  have vx:=(SE hm (l.take i) kQ)
  rw[gV,sj hi] at vx
  by_cases hi':i<l.length
  · exact absurd hi' (by rw[hl0];exact v9 _)
  · rw[fN (by omega)] at xE vx kQ
    rw[if_neg (by rw[Bool.not_eq_false];exact List.all_eq_true.2 kQ)] at ao
    generalize mK m l (S0 m,T0 m)=g at *
    obtain ⟨g1,g2⟩:=g
    dsimp only at xE
    have hval:=aeC hm pL xE (vx.aeI (by unfold vN;omega)) hf
    ((try revert hK K);(repeat' (first|refine Va X0 ?_|(refine V2 X0 ?_ ?_<;>try with_reducible intro hb)|(refine Xi ?_ ?_<;>try intro ht)|refine VD ?_ ?_|exact Xx|fail))<;>try with_reducible intro K hK)
    refine av _ _ rfl ?_;clear aq av Ql
    repeat (first|refine Xu ?_)
    repeat' (first|((fail_if_success (first|refine ej 11 ?_|refine ek 11 ?_));refine Xr X0 ?_;intro K hK)|refine Xo X0 ?_|(refine hK _ ?_;clear hK K)|(refine Xg X0 ?_ ?_<;>try intro hb)|(refine Xi ?_ ?_<;>try intro ht)|refine Xy ?_|refine Xd ?_ ?_|exact Xx|fail)
    refine qv 2 (by decide) _ rfl ?_
    intro K hK
    simp (disch:=omega) only[Ac,↓Pc,simprocAttr,kW,ky]
    refine⟨rfl,(show lZ Tryz.prog 135 [.ptr gi 0 0,.tree 1 (rowsOf bg left)] (some 32) _ _ from ?_)⟩
    refine vo hval ?_
    rintro r ob3 ⟨rfl,sK⟩
    refine⟨sK,?_⟩
    simp (disch:=omega) only[Ac,↓Pc,simprocAttr,ky]
    refine hK _ ?_;clear hK K
    repeat (first|refine Xu ?_)
    subst ao
    ((try revert hK K);(repeat' (first|refine Vb X0 ?_|(refine V2 X0 ?_ ?_<;>try with_reducible intro hb)|(refine Xi ?_ ?_<;>try intro ht)|refine VD ?_ ?_|exact Xx|fail))<;>try with_reducible intro K hK)
    exact aK rfl rfl
theorem aeK (m:aj) (P:List Nd) (h0:∀ x∈P,x.eU=[]∧x.dt=[]) (pL:m.au=[]) (hP:PB P) (hm:VM m) (b:Int) (s:eh) (hs:uF m P s) :
    an Tryz.prog 75 [.agg [.lit (.int .i64 s.1),.tree 1 (rowsOf bg s.2.1)],.ptr 1 0 0,.ptr 0 0 0,.ptr 2 0 0] [.var (ar m),.var (cH P),.var [.lit (.int .i64 b)]] (.lit (.bool (jP m P b s).2)) [.var (ar m),.var (cH P),.var [.lit (.int .i64 (jP m P b s).1)]]:=by
  obtain ⟨i,left,ab⟩:=s
  have hi:i<P.length:=hs.1
  have hf:eG m left:=hs.2.1
  have s5:=hP.w0
  have cC:P.getD i default=nd P i:=rfl
  have cX:=aC (l:=P) (i:=i) (d:=default) hi
  have b2:=hP.eU _ cX
  generalize ao:jP m P b (i,left,ab)=res
  unfold jP at ao
  rw[cC] at b2
  dsimp only at ao
  obtain ⟨rH,oK⟩:=h0 _ cX
  rw[cC] at rH oK
  have hlf:=aeJ m left (nd P i).eU rH pL hm hf b2
  generalize kR m left (nd P i).eU=lt at *
  generalize bE:nd P i=x at *
  obtain ⟨c,kids,eU,dt,cells⟩:=x
  obtain ⟨v,e⟩:=lt
  dsimp only at *
  refine an.aD (fn:=Tryz.f75) 41 3 [.tmp 5] Tryz.func75 rfl rfl rfl rfl rfl (by simp) ?_
  by_cases hc:c = -1
  rotate_left
  · rw[if_pos hc] at ao
    ((try revert hK K);(repeat' (first|refine Vb (X3 @cH.eq_1 @cC @cL.eq_1) ?_|(refine V2 (X3 @cH.eq_1 @cC @cL.eq_1) ?_ ?_<;>try with_reducible intro hb)|(refine Xi ?_ ?_<;>try intro ht)|refine VD ?_ ?_|exact Xx|fail))<;>try with_reducible intro K hK)
    all_goals try (exfalso;omega)
    subst ao
    exact Xw false [0,1,2] @cH.eq_1
  rw[if_neg (by omega)] at ao
  have hg:¬ 0<dt.length:=by rw[oK];decide
  rw[if_neg hg] at ao
  ((try revert hK K);(repeat' (first|refine Vd (X3 @cH.eq_1 @cC @cL.eq_1) hlf ?_|(refine V2 (X3 @cH.eq_1 @cC @cL.eq_1) ?_ ?_<;>try with_reducible intro hb)|(refine Xi ?_ ?_<;>try intro ht)|refine VD ?_ ?_|exact Xx|fail))<;>try with_reducible intro K hK)
  all_goals try (exfalso;omega)
  subst ao
  exact Xw false [0,1,2] @cH.eq_1
theorem N9 (m:aj) (P:List Nd) (h0:∀ x∈P,x.eU=[]∧x.dt=[]) (pL:m.au=[]) (hm:MB m) (hP:PB P):an Tryz.prog 40 [.agg (ar m),.agg (cH P)] [] (.bG [.lit (.int .i64 (l9 m P).1),.lit (.bool (l9 m P).2)]) []:=by
  have hw:=adt m P hm hP (fun _=>.var (ar m)) (fun _=>.var (cH P)) (fun b:Int=>.var [.lit (.int .i64 b)]) [.ptr 1 0 0,.ptr 0 0 0,.ptr 2 0 0] 75 (jP m P) (Inv:=fun _ _=>True)
    ⟨fun ρ h0 h1 h2 a=>⟨rfl,rfl,rfl⟩,fun ρ h0 h1 h2 v hv=>by
      simp only[List.mem_cons,List.not_mem_nil,or_false] at hv
      rcases hv with rfl | rfl | rfl<;>simp only[a6,h0,h1,h2],fun _ _ _ _ _=>trivial,fun dM a s _ hs _=>aeK m P h0 pL hP dM a s hs⟩ 1099511627776 (fun _ _=>trivial)
  generalize ao:l9 m P=res
  unfold l9 at ao
  generalize rV m P (jP m P) 1099511627776=r at *
  obtain ⟨b,ok⟩:=r
  dsimp only at hw ao
  refine an.aD (fn:=Tryz.f40) 15 0 [.tmp 4,.tmp 5] Tryz.func40 rfl rfl rfl rfl rfl (by simp) ?_
  ((try revert hK K);(repeat' (first|refine Vb @cH.eq_1 ?_|(refine V2 @cH.eq_1 ?_ ?_<;>try with_reducible intro hb)|(refine Xi ?_ ?_<;>try intro ht)|refine VD ?_ ?_|exact Xx|fail))<;>try with_reducible intro K hK)
  refine lB hw (by simp) ?_
  cases ok
  · rw[if_neg (by simp)] at ao
    ((try revert hK K);(repeat' (first|refine Vb @nw ?_|(refine V2 @nw ?_ ?_<;>try with_reducible intro hb)|(refine Xi ?_ ?_<;>try intro ht)|refine VD ?_ ?_|exact Xx|fail))<;>try with_reducible intro K hK)
    subst ao
    exact aK rfl rfl
  · rw[if_pos rfl] at ao
    ((try revert hK K);(repeat' (first|refine Vb @lR ?_|(refine V2 @lR ?_ ?_<;>try with_reducible intro hb)|(refine Xi ?_ ?_<;>try intro ht)|refine VD ?_ ?_|exact Xx|fail))<;>try with_reducible intro K hK)
    subst ao
    exact aK rfl rfl
end T

