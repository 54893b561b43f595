import Derived.Test.YtkmfgcbdnijgeaaGreatX27
import Derived.Test.YtkmfgcbdnijgeaaGreatX26
import Derived.Test.YtkmfgcbdnijgeaaGreatX15
import Derived.Test.YtkmfgcbdnijgeaaGreatX28
set_option linter.unusedVariables false
set_option linter.unusedSimpArgs false
set_option linter.unnecessarySimpa false
set_option linter.unusedSectionVars false
set_option maxHeartbeats 64000000
set_option maxRecDepth 20000
open Go Go.Am Go.Proofs
open Nat (reduceEqDiff reduceAdd reduceLeDiff reduceMul)
open Int (reduceNeg reduceLE reduceToNat)
open Go Go.Am
namespace T
theorem enm1 (xs:List Nm) (q:Nm):rowsOf eNm xs++[[AV.lit (.int .i64 q.1),.lit (.bool q.2)]]=rowsOf eNm (xs++[q]):=by simp[rowsOf,eNm]
theorem valueM_ok {m:Mdl} (hm:VM m) {gi ai bi:Nat} {D E:List (Nat × Nat)} {S T:List (List Nm)} {os:List Ob} (h:LO eNm (GB m gi ai bi D E) D E S T os) (hg:LG m BIG (S,T)) {left:List (List Bool)} (hf:FitsP m left) :
    HoldsR Tryz.prog 92 [.ptr gi 0 0,.tree 1 (rowsOf eBs left)] os fun r ob=>r=.lit (.int .i64 (valV m left (S,T)))∧os.length≤ob.length:=by
  obtain ⟨fg,fa,fb⟩:=GBf h
  have eg:=oLo fg
  have ea:=oLo fa
  have eb:=oLo fb
  have hD:=h.rD.len
  have hE:=h.rE.len
  have hs1:S.length=m.cls.length:=hg.s
  have ht1:T.length=m.prs.length:=hg.t
  have hc4:=hm.cls
  have hp4:=hm.prs
  have hk4:=hm.cts
  have hfl:=hf.1
  rw[valV_par]
  refine HoldsR.of_body' (fn:=Tryz.f92) 80 os.length [.tmp 4] Tryz.func92 rfl rfl rfl rfl rfl (by simp) ?_
  refine Vb (X3 @fg @fa @gC.eq_1) ?_
  have hDl:D.length=m.cls.length:=by omega
  refine W_loopS (fun z:Nat × List Ob × Nat × List Nm=>(⟨slots [(0,.ptr gi 0 0),(1,.tree 1 (rowsOf eBs left)),(5,.ref z.2.2.1 2 0 z.2.2.2.length),(17,.lit (.int .i64 m.cls.length)),(18,.lit (.int .i64 z.1))],z.2.1⟩:St))
    (fun z=>z.1≤m.cls.length∧Keep os z.2.1∧z.2.1[z.2.2.1]?=some (.arr 2 (rowsOf eNm z.2.2.2))∧os.length≤z.2.2.1∧z.2.2.2=(PC left S z.1).map ptN)
    (fun z=>m.cls.length - z.1) (0,os++[.arr 2 []],os.length,[]) ⟨Nat.zero_le _,(Keep.refl _).app _,oL0 _ _ _,Nat.le_refl _,rfl⟩ ?_ ?_
  · refine Turns.trans (Turns.nil 5 2 (by simp only[Kc,simprocAttr]) (by decide)) ?_
    exact Xv @hDl
  rintro ⟨i,ob,ti,ps⟩ ⟨hi,hkp,fti,hti,hps⟩ Ql hnl hel
  dsimp only at hi hkp fti hti hps ⊢
  have hpl:ps.length=i:=by rw[hps,List.length_map,PC_len]
  by_cases hi':i<m.cls.length
  · have hopt:=options_ok hm (h.keep hkp) hg hf i hi'
    have hst:(PC left S (i+1)).map ptN=ps++[lowA (optsV (S.getD i default) (left.getD i default))]:=by
      rw[show PC left S (i+1)=PC left S i++[lowN (S.getD i default) (left.getD i default) (0,false)] from range_snoc _ i,List.map_append,← hps,lowA_ptN];rfl
    have hlow:=lowest_ok (optsV (S.getD i default) (left.getD i default)) (by have:=optsV_le (S.getD i default) (left.getD i default);have:=hg.sl i hi';have:=hm.opt _ (getD_mem (d:=default) hi');dsimp only at *;omega)
    generalize optsV (S.getD i default) (left.getD i default)=rw' at *
    generalize lowA rw'=q at *
    repeat' (first|((fail_if_success (first|refine W_at 5 ?_|refine W_atE 5 ?_));refine Xr X0 ?_;intro K hK)|(refine hK _ ?_;clear hK K)|(refine Xi ?_ ?_<;>try intro ht)|refine Xy ?_|exact Xx|fail)
    refine W_region_ce 4 (by decide) _ rfl ?_
    intro K hK
    simp (disch:=omega) only[Ac,↓Pc,simprocAttr,List.take,List.drop]
    refine⟨rfl,(show callKR Tryz.prog 134 [.ptr gi 0 0,.lit (.int .i64 i),.tree 1 (rowsOf eBs left)] (some 25) _ _ from ?_)⟩
    refine callKR_all hopt ?_
    rintro r ob2 ⟨hk2,id,rfl,hid⟩
    refine⟨hk2.len,?_⟩
    have fti2:=hk2 _ _ fti
    have eti2:=oLo fti2
    have sti2:=oSo fti2
    have hkl:=(hkp.trans hk2).len
    simp (disch:=omega) only[Ac,↓Pc,simprocAttr,List.drop]
    refine callK_snap [] hlow (by simp) trivial ⟨ArgR.fz hid (by rw[rows_length]) (by simp),trivial⟩ rfl (by simp) ?_
    simp (disch:=omega) only[Ac,↓Pc,simprocAttr,fti2,eti2,sti2,eNm,enm1,Oc2,List.append_assoc,List.length_append,List.length_set]
    repeat' (first|with_reducible refine And.intro ?_ ?_|omega)
    refine hK _ ?_;clear hK K
    repeat (refine Xu ?_)
    refine Va X0 ?_
    refine hnl _ (i+1,ob2.set ti .gone++[.arr 2 [eNm q],.arr 2 (rowsOf eNm (ps++[q]))],ob2.length+1,ps++[q]) ⟨by dsimp only;omega,((hkp.trans hk2).set hti).app _,oLs _ _ _ _ _,by dsimp only;omega,hst.symm⟩ (by dsimp only;omega) ?_
    exact Xv @eNm.eq_1
  have hiC:i=m.cls.length:=by omega
  rw[hiC] at hps
  have kg:=hkp _ _ fg
  have kb:=hkp _ _ fb
  have hElm:E.length=m.prs.length:=by omega
  ((repeat' (first|refine Va X0 ?_|(refine Xi ?_ ?_<;>try intro ht)|exact Xx|fail)))
  refine hel _ _ rfl ?_;clear hnl hel Ql
  repeat (refine Xu ?_)
  refine Va (X3 @kg @kb @gC.eq_1) ?_
  refine W_loopS (fun z:Nat × List Ob × Nat × List Nm=>(⟨slots [(0,.ptr gi 0 0),(1,.tree 1 (rowsOf eBs left)),(5,.ref z.2.2.1 2 0 z.2.2.2.length),(34,.lit (.int .i64 m.prs.length)),(35,.lit (.int .i64 z.1))],z.2.1⟩:St))
    (fun z=>z.1≤m.prs.length∧Keep os z.2.1∧z.2.1[z.2.2.1]?=some (.arr 2 (rowsOf eNm z.2.2.2))∧os.length≤z.2.2.1∧z.2.2.2=(PC left S m.cls.length++PP m left T z.1).map ptN)
    (fun z=>m.prs.length - z.1) (0,ob,ti,ps) ⟨Nat.zero_le _,hkp,fti,hti,by rw[hps];simp[PP]⟩ (Xv @hElm) ?_
  clear hkp fti hti hps hpl hiC kg kb hi hi' ti ps
  rintro ⟨i,ob,ti,ps⟩ ⟨hi,hkp,fti,hti,hps⟩ Ql hnl hel
  dsimp only at hi hkp fti hti hps ⊢
  have hpl:ps.length=m.cls.length+i:=by rw[hps,List.length_map,List.length_append,PC_len,PP_len]
  by_cases hi':i<m.prs.length
  · have hopt:=entries_ok hm (h.keep hkp) hg hf i hi'
    have hst:(PC left S m.cls.length++PP m left T (i+1)).map ptN=ps++[lowA (optsV (T.getD i default) (prB m left i))]:=by
      rw[show PP m left T (i+1)=PP m left T i++[lowN (T.getD i default) (prB m left i) (0,false)] from range_snoc _ i,← List.append_assoc,List.map_append,← hps,lowA_ptN];rfl
    have hlow:=lowest_ok (optsV (T.getD i default) (prB m left i)) (by have:=optsV_le (T.getD i default) (prB m left i);have:=hg.tl i hi';have:=pairB_tab (prsL_mem hm.pr _ (getD_mem (d:=default) hi')) hm;dsimp only at *;omega)
    generalize optsV (T.getD i default) (prB m left i)=rw' at *
    generalize lowA rw'=q at *
    repeat' (first|((fail_if_success (first|refine W_at 10 ?_|refine W_atE 10 ?_));refine Xr X0 ?_;intro K hK)|(refine hK _ ?_;clear hK K)|(refine Xi ?_ ?_<;>try intro ht)|refine Xy ?_|exact Xx|fail)
    refine W_region_ce 4 (by decide) _ rfl ?_
    intro K hK
    simp (disch:=omega) only[Ac,↓Pc,simprocAttr,List.take,List.drop]
    refine⟨rfl,(show callKR Tryz.prog 135 [.ptr gi 0 0,.lit (.int .i64 i),.tree 1 (rowsOf eBs left)] (some 42) _ _ from ?_)⟩
    refine callKR_all hopt ?_
    rintro r ob2 ⟨hk2,id,rfl,hid⟩
    refine⟨hk2.len,?_⟩
    have fti2:=hk2 _ _ fti
    have eti2:=oLo fti2
    have sti2:=oSo fti2
    have hkl:=(hkp.trans hk2).len
    simp (disch:=omega) only[Ac,↓Pc,simprocAttr,List.drop]
    refine callK_snap [] hlow (by simp) trivial ⟨ArgR.fz hid (by rw[rows_length]) (by simp),trivial⟩ rfl (by simp) ?_
    simp (disch:=omega) only[Ac,↓Pc,simprocAttr,fti2,eti2,sti2,eNm,enm1,Oc2,List.append_assoc,List.length_append,List.length_set]
    repeat' (first|with_reducible refine And.intro ?_ ?_|omega)
    refine hK _ ?_;clear hK K
    repeat (refine Xu ?_)
    refine Va X0 ?_
    refine hnl _ (i+1,ob2.set ti .gone++[.arr 2 [eNm q],.arr 2 (rowsOf eNm (ps++[q]))],ob2.length+1,ps++[q]) ⟨by dsimp only;omega,((hkp.trans hk2).set hti).app _,oLs _ _ _ _ _,by dsimp only;omega,hst.symm⟩ (by dsimp only;omega) ?_
    exact Xv @eNm.eq_1
  have hiP:i=m.prs.length:=by omega
  rw[hiP] at hps
  have kg:=hkp _ _ fg
  ((repeat' (first|refine Va X0 ?_|(refine Xi ?_ ?_<;>try intro ht)|exact Xx|fail)))
  refine hel _ _ rfl ?_;clear hnl hel Ql
  repeat (refine Xu ?_)
  refine Va (X2 @kg @gC.eq_1) ?_
  refine W_loopS (fun z:Nat × List Ob × Nat × List Nm=>(⟨slots [(1,.tree 1 (rowsOf eBs left)),(5,.ref z.2.2.1 2 0 z.2.2.2.length),(51,.tree 4 (rowsOf eCt m.cts)),(52,.lit (.int .i64 m.cts.length)),(53,.lit (.int .i64 z.1))],z.2.1⟩:St))
    (fun z=>z.1≤m.cts.length∧Keep os z.2.1∧z.2.1[z.2.2.1]?=some (.arr 2 (rowsOf eNm z.2.2.2))∧os.length≤z.2.2.1∧z.2.2.2=(PC left S m.cls.length++PP m left T m.prs.length++PK m left z.1).map ptN)
    (fun z=>m.cts.length - z.1) (0,ob,ti,ps) ⟨Nat.zero_le _,hkp,fti,hti,by rw[hps];simp[PK]⟩ (Xv X0) ?_
  clear hkp fti hti hps hpl hiP kg hi hi' ti ps
  rintro ⟨i,ob,ti,ps⟩ ⟨hi,hkp,fti,hti,hps⟩ Ql hnl hel
  dsimp only at hi hkp fti hti hps ⊢
  have hpl:ps.length=m.cls.length+m.prs.length+i:=by rw[hps,List.length_map,List.length_append,List.length_append,PC_len,PP_len,PK_len]
  by_cases hi':i<m.cts.length
  · have hcm:=getD_mem (d:=default) hi'
    obtain ⟨q1,q2,q3,q4⟩:=ctB_lds hm hf hcm
    have h1:=least_ok (m.cts.getD i default) left left.length (Nat.le_refl _) q1 (by omega) (fun r hr=>by have:=hf.row hm r hr;omega) (by omega) q2 q3
    have h2:=of_ok (leastV left (m.cts.getD i default))
    have hst:(PC left S m.cls.length++PP m left T m.prs.length++PK m left (i+1)).map ptN=ps++[ofN (leastV left (m.cts.getD i default))]:=by
      rw[show PK m left (i+1)=PK m left i++[(leastV left (m.cts.getD i default),!(decide ((m.cts.getD i default).pen=1099511627776) && decide (0<leastV left (m.cts.getD i default))))] from range_snoc _ i,← List.append_assoc,List.map_append,← hps]
      congr 1
      simp only[List.map_cons,List.map_nil,ptN,ofN,Bool.not_not]
      rw[least_forb hm hfl hcm (fun x hx=>(q1 x hx).2)]
    have eti:=oLo fti
    have sti:=oSo fti
    have htl:=(List.getElem?_eq_some_iff.1 fti).1
    have hkl:=hkp.len
    generalize leastV left (m.cts.getD i default)=v at *
    generalize hcc:m.cts.getD i default=c at *
    ((repeat' (first|refine Vc (X5 @fti @eti @sti @hcc (X5 @eCt.eq_1 @eNm.eq_1 @ofN.eq_1 @eNm_app (X4 @Oc2 @List.append_assoc.{0} @List.length_append.{0} @List.length_set.{0}))) (X2 h1 h2) ?_|(refine Xi ?_ ?_<;>try intro ht)|exact Xx|fail)))
    refine hnl _ (i+1,ob.set ti .gone++[.var (eCt c),.arr 2 [eNm (ofN v)],.arr 2 (rowsOf eNm (ps++[ofN v]))],ob.length+2,ps++[ofN v]) ⟨by dsimp only;omega,(hkp.set hti).app _,oLs _ _ _ _ _,by dsimp only;omega,hst.symm⟩ (by dsimp only;omega) ?_
    exact Xv (X3 @eNm.eq_1 @ofN.eq_1 @eCt.eq_1)
  have hiK:i=m.cts.length:=by omega
  rw[hiK] at hps hpl
  rw[show PC left S m.cls.length++PP m left T m.prs.length++PK m left m.cts.length=PAR m left (S,T) from rfl] at hps
  have hPl:(PAR m left (S,T)).length=m.cls.length+m.prs.length+m.cts.length:=by unfold PAR;rw[List.length_append,List.length_append,PC_len,PP_len,PK_len]
  have hPr:∀ p∈PAR m left (S,T),-BIG≤p.1∧p.1≤BIG:=fun p hp=>by
    unfold PAR at hp
    rw[List.mem_append,List.mem_append] at hp
    rcases hp with (hp | hp) | hp
    · exact PC_rg (by unfold BIG;decide) hg.sb _ p hp
    · exact PP_rg (by unfold BIG;decide) hg.tb _ p hp
    · have:=PK_rg hm _ p hp;unfold BIG;omega
  generalize PAR m left (S,T)=P at *
  ((repeat' (first|refine Va X0 ?_|(refine Xi ?_ ?_<;>try intro ht)|exact Xx|fail)))
  refine hel _ _ rfl ?_;clear hnl hel Ql
  repeat (refine Xu ?_)
  refine Va @fti ?_
  refine W_loopS (fun z:Nat × List Ob=>(⟨slots [(10,.lit (.int .i64 (accV (P.take z.1) (0,false)).1)),(65,.ref ti 2 0 ps.length),(66,.lit (.int .i64 ps.length)),(67,.lit (.int .i64 z.1))],z.2⟩:St))
    (fun z=>z.1≤P.length∧Keep os z.2∧z.2[ti]?=some (.arr 2 (rowsOf eNm ps))∧(accV (P.take z.1) (0,false)).2=false)
    (fun z=>P.length - z.1) (0,ob) ⟨Nat.zero_le _,hkp,fti,rfl⟩ (Xv (X3 @List.take_zero.{0} @accV.eq_1 @List.foldl_nil.{0,0})) ?_
  clear hkp fti
  rintro ⟨j,ob⟩ ⟨hj,hkp,fti,hacc⟩ Ql hnl hel
  dsimp only at hj hkp fti hacc ⊢
  have hkl:=hkp.len
  have hPps:ps.length=P.length:=by rw[hps,List.length_map]
  by_cases hj':j<P.length
  · have htk:=take_snoc hj'
    have hsn:=accV_snoc (P.take j) (P.getD j default) (0,false)
    rw[← htk,hacc,Bool.false_or] at hsn
    have hgt:ps.getD j default=ptN (P.getD j default):=by rw[hps,map_getD _ _ _ hj']
    have hrg:=accV_rg (P.take j) (0,false) (fun p hp=>hPr p (List.mem_of_mem_take hp))
    rw[List.length_take,Nat.min_eq_left hj] at hrg
    have hrq:=hPr _ (getD_mem (d:=default) hj')
    have hmemj:=getD_mem (l:=P) (d:=default) hj'
    unfold BIG at hrg hrq
    dsimp only at hrg
    generalize (accV (P.take j) (0,false)).1=s at *
    generalize P.getD j default=q at *
    obtain ⟨v,b⟩:=q
    unfold ptN at hgt
    dsimp only at hgt hsn hrq
    have eti:=oLo fti
    cases b
    · have hany:(accV P (0,false)).2=true:=(accV_any P 0).2 ⟨_,hmemj,rfl⟩
      ((repeat' (first|refine Va (X5 @fti @eti @hgt @eNm.eq_1 (X2 @Oc2 @Bool.not_false)) ?_|(refine Xi ?_ ?_<;>try intro ht)|exact Xx|fail)))
      repeat (refine Xu ?_)
      ((skip))
      unfold retR
      simp only[resW,retV]
      simp (disch:=omega) only[Ac,↓Pc,simprocAttr]
      rw[if_pos hany]
      exact⟨_,_,⟨rfl,by rw[List.length_append];omega⟩,RetOK_all rfl (by rw[List.length_append];omega) rfl⟩
    · ((repeat' (first|refine Va (X5 @fti @eti @hgt @eNm.eq_1 (X2 @Oc2 @Bool.not_true)) ?_|(refine Xi ?_ ?_<;>try intro ht)|exact Xx|fail)))
      refine hnl _ (j+1,_) ⟨by dsimp only;omega,hkp.app [.var (eNm (v,false))],eti _,by rw[hsn];rfl⟩ (by dsimp only;omega) ?_
      simp only[hsn]
      exact Xv @eNm.eq_1
  · rw[List.take_of_length_le (by omega)] at hacc
    have hnany:¬ (accV P (0,false)).2=true:=by rw[hacc];simp
    ((repeat' (first|refine Va (List.take_of_length_le (show P.length≤j by omega)) ?_|(refine Xi ?_ ?_<;>try intro ht)|exact Xx|fail)))
    refine hel _ _ rfl ?_;clear hnl hel Ql
    repeat (refine Xu ?_)
    refine Vb X0 ?_
    unfold retR
    simp only[resW,retV]
    simp (disch:=omega) only[Ac,↓Pc,simprocAttr]
    rw[if_neg hnany]
    exact⟨_,ob,⟨rfl,hkl⟩,RetOK_all rfl hkl rfl⟩
theorem LG.mono {m:Mdl} {B C:Int} {g:Lg} (h:LG m B g) (hc:B≤C):LG m C g:=⟨h.s,h.t,h.sl,h.tl,fun r hr=>(h.sb r hr).mono hc,fun r hr=>(h.tb r hr).mono hc⟩
theorem leaf_ok (m:Mdl) (left:List (List Bool)) (l:List Mv) (hm:VM m) (hf:FitsP m left) (hl:l.length<9223372036854775808):Holds Tryz.prog 51 [.agg (eMdl m),.tree 1 (rowsOf eBs left),.tree 4 (rowsOf eMv l)] [] (.tup [.lit (.int .i64 (leafT m left l).1),.lit (.int .i64 (leafT m left l).2)]) []:=by
  generalize hres:leafT m left l=res
  unfold leafT at hres
  refine Holds.of_body' (fn:=Tryz.f51) 33 0 [.tmp 6,.tmp 7] Tryz.func51 rfl rfl rfl rfl rfl (by simp) ?_
  by_cases hlen:2000<l.length
  · rw[if_pos hlen] at hres
    subst hres
    ((repeat' (first|refine Vb X0 ?_|(refine Xi ?_ ?_<;>try intro ht)|exact Xx|fail)))
    all_goals exact RetOK_pure' rfl rfl
  rw[if_neg hlen] at hres
  repeat' (first|((fail_if_success (first|refine W_at 3 ?_|refine W_atE 3 ?_));refine Xr X0 ?_;intro K hK)|(refine hK _ ?_;clear hK K)|(refine Xi ?_ ?_<;>try intro ht)|refine XY ?_|exact Xx|fail)
  refine W_region_ce 1 (by decide) _ rfl ?_
  intro K hK
  simp (disch:=omega) only[Ac,↓Pc,simprocAttr,List.take,List.drop]
  refine⟨rfl,(show callKR Tryz.prog 89 [.agg (eMdl m)] (some 15) _ _ from ?_)⟩
  refine callKR_all (open_ok hm [.var (eMdl m)]) ?_
  rintro r os ⟨gi,ai,bi,D,E,rfl,hLO,hkp⟩
  refine⟨hkp.len,?_⟩
  have f0:=hkp 0 _ rfl
  simp (disch:=omega) only[Ac,↓Pc,simprocAttr,List.drop]
  refine hK _ ?_;clear hK K
  repeat (refine Xu ?_)
  refine Va X0 ?_
  refine W_loopS (fun z:Nat × List Ob=>(⟨slots [(1,.tree 1 (rowsOf eBs left)),(8,.ptr gi 0 0),(16,.tree 4 (rowsOf eMv l)),(17,.lit (.int .i64 l.length)),(18,.lit (.int .i64 z.1))],z.2⟩:St))
    (fun z=>z.1≤l.length∧LO eNm (GB m gi ai bi D E) D E (mvsL m (l.take z.1) (S0 m,T0 m)).1 (mvsL m (l.take z.1) (S0 m,T0 m)).2 z.2∧∀ x∈l.take z.1,mvB m x=true)
    (fun z=>l.length - z.1) (0,os) ⟨Nat.zero_le _,hLO,by simp⟩ (Xv X0) ?_
  clear hLO hkp f0
  rintro ⟨i,ob⟩ ⟨hi,hLO,hall⟩ Ql hnl hel
  dsimp only at hi hLO hall ⊢
  have hlg:=(mvsL_lg hm (l.take i) hall)
  rw[List.length_take,Nat.min_eq_left hi] at hlg
  by_cases hi':i<l.length
  · have hts:mvsL m (l.take (i+1)) (S0 m,T0 m)=mvS m (l.getD i default) (mvsL m (l.take i) (S0 m,T0 m)):=by rw[take_snoc hi',mvsL_snoc]
    have htk:=take_snoc hi'
    have hmem:=getD_mem (d:=default) hi'
    generalize mvsL m (l.take i) (S0 m,T0 m)=g at *
    generalize hxx:l.getD i default=x at *
    have hval:=validM_ok hm (hLO.app [.var (eMv x)]) hlg x
    have hob0:ob.length<(ob++[Ob.var (eMv x)]).length:=by simp
    have hvx:(ob++[Ob.var (eMv x)])[ob.length]?=some (.var (eMv x)):=oL0 _ _ _
    repeat' (first|((fail_if_success (first|refine W_at 7 ?_|refine W_atE 7 ?_));refine Xr (X3 @hxx @eMv.eq_1 @Oc2) ?_;intro K hK)|(refine hK _ ?_;clear hK K)|(refine Xi ?_ ?_<;>try intro ht)|refine Xy ?_|refine Xd ?_ ?_|exact Xx|fail)
    refine W_region_ce 2 (by decide) _ rfl ?_
    intro K hK
    simp (disch:=omega) only[Ac,↓Pc,simprocAttr,List.take,List.drop,Oc2]
    refine⟨rfl,(show callKR Tryz.prog 90 [.ptr gi 0 0,.agg (eMv x)] (some 24) _ _ from ?_)⟩
    refine callKR_all hval ?_
    rintro r ob2 ⟨rfl,lx,rfl⟩
    refine⟨by simp,?_⟩
    simp (disch:=omega) only[Ac,↓Pc,simprocAttr,List.drop]
    refine hK _ ?_;clear hK K
    repeat (refine Xu ?_)
    by_cases hx:mvB m x=true
    · rw[hx]
      have hmv:=move_ok hm (hLO.app (.var (eMv x)::lx)) (B:=1099511627776+268435456 * 25 * i) (by omega) hlg x hx
      have evx:=oLo hvx
      repeat' (first|(refine Xi ?_ ?_<;>try intro ht)|refine Xy ?_|exact Xx|fail)
      refine W_region_ce 2 (by decide) _ rfl ?_
      intro K hK
      simp (disch:=omega) only[Ac,↓Pc,simprocAttr,List.take,List.drop,Oc2,eMv,List.append_assoc]
      refine⟨rfl,(show callKR Tryz.prog 91 [.ptr gi 0 0,.agg (eMv x)] (some 28) _ _ from ?_)⟩
      refine callKR_all hmv ?_
      rintro r ob3 ⟨rfl,hL3,hln⟩
      refine⟨hln,?_⟩
      simp (disch:=omega) only[Ac,↓Pc,simprocAttr,List.drop]
      refine hK _ ?_;clear hK K
      repeat (refine Xu ?_)
      refine Va X0 ?_
      refine hnl _ (i+1,ob3) ⟨by dsimp only;omega,by rw[hts];exact hL3,fun y hy=>by
        dsimp only at hy
        rw[htk] at hy
        rcases List.mem_append.1 hy with hy | hy
        · exact hall y hy
        · simp only[List.mem_singleton] at hy;subst hy;exact hx⟩ (by dsimp only;omega) ?_
      exact Xv X0
    · have hx':mvB m x=false:=by simpa using hx
      rw[hx']
      rw[if_pos (by rw[List.all_eq_false];exact⟨x,hmem,hx⟩)] at hres
      ((repeat' (first|refine Va @Bool.not_false ?_|(refine Xi ?_ ?_<;>try intro ht)|exact Xx|fail)))
      repeat (refine Xu ?_)
      refine Vb X0 ?_
      exact RetOK_pure' rfl (by rw[← hres])
  · rw[List.take_of_length_le (by omega)] at hLO hlg hall
    rw[if_neg (by rw[Bool.not_eq_false];exact List.all_eq_true.2 hall)] at hres
    generalize mvsL m l (S0 m,T0 m)=g at *
    obtain ⟨g1,g2⟩:=g
    dsimp only at hLO
    have hval:=valueM_ok hm hLO (hlg.mono (by unfold BIG;omega)) hf
    ((repeat' (first|refine Va X0 ?_|(refine Xi ?_ ?_<;>try intro ht)|exact Xx|fail)))
    refine hel _ _ rfl ?_;clear hnl hel Ql
    repeat (refine Xu ?_)
    refine Xy ?_
    refine W_region_ce 2 (by decide) _ rfl ?_
    intro K hK
    simp (disch:=omega) only[Ac,↓Pc,simprocAttr,List.take,List.drop]
    refine⟨rfl,(show callKR Tryz.prog 92 [.ptr gi 0 0,.tree 1 (rowsOf eBs left)] (some 32) _ _ from ?_)⟩
    refine callKR_all hval ?_
    rintro r ob3 ⟨rfl,hln⟩
    refine⟨hln,?_⟩
    simp (disch:=omega) only[Ac,↓Pc,simprocAttr,List.drop]
    refine hK _ ?_;clear hK K
    repeat (refine Xu ?_)
    subst hres
    refine Vb X0 ?_
    exact RetOK_pure' rfl rfl
def eBl (b:Bool):List AV:=[.lit (.bool b)]
instance:Row eBl 1:=⟨fun _=>rfl,fun b v hv=>by
  simp only[eBl,List.mem_singleton] at hv;subst hv;exact .inl ⟨_,rfl,rfl⟩⟩
theorem eBl_bools (xs:List Bool):rowsOf eBl xs=bools xs:=by simp[rowsOf,eBl,bools]
def repB (n i:Nat) (s:Bool):List Bool:=List.replicate i s++List.replicate (n - i) false
theorem repB_take {n i j:Nat} {s:Bool} (h:j≤i):(rowsOf eBl (repB n i s)).take j=rowsOf eBl (List.replicate j s):=by
  unfold repB rowsOf
  rw[← List.map_take,List.take_append_of_le_length (by simp;omega),List.take_replicate,Nat.min_eq_left h]
theorem repB_copy {n i j:Nat} {s:Bool} (h:i+j≤n) (hj:j≤i):rowsOf eBl (List.replicate i s)++List.take j (rowsOf eBl (List.replicate i s))++List.drop (i+j) (rowsOf eBl (repB n i s))=rowsOf eBl (repB n (i+j) s):=by
  unfold repB rowsOf
  rw[← List.map_take,← List.map_drop,← List.map_append,← List.map_append,List.take_replicate,Nat.min_eq_left hj,List.drop_append,List.drop_eq_nil_of_le (by simp),List.drop_replicate,List.nil_append,List.replicate_append_replicate]
  congr 3
  simp;omega
theorem repB_len {n i:Nat} {s:Bool} (h:i≤n):(repB n i s).length=n:=by simp[repB];omega
theorem repeatB_ok (s:Bool) (n:Nat) (hn:n≤1048576):Holds Tryz.prog 109 [.tree 1 [eBl s],.lit (.int .i64 (n:Nat))] [] (.ref 0 1 0 n) [.arr 1 (rowsOf eBl (List.replicate n s))]:=by
  have hm:=mul_ok n (by omega)
  refine Holds.of_body' (fn:=Tryz.f109) 48 0 [.tmp 4] Tryz.func109 rfl rfl rfl rfl rfl (by simp) ?_
  ((repeat' (first|refine Vc (X5 @u64min @u64max @unI @unU (X4 @wrapU @wrapI @Option.isSome_some.{0} @row_scal)) hm ?_|(refine Xi ?_ ?_<;>try intro ht)|exact Xx|fail)))
  have e0:List.take (min 1 n) [eBl s]++List.drop (min 1 n) (List.replicate n [AV.lit (Value.bool false)])=rowsOf eBl (repB n (min 1 n) s):=by
    unfold repB rowsOf
    rw[List.drop_replicate]
    rcases Nat.eq_zero_or_pos n with h | h
    · subst h;rfl
    · rw[Nat.min_eq_left h,List.map_append,List.map_replicate,List.map_replicate];rfl
  have e0':List.take (min 1 n) [eBl s]++List.drop (min 1 n) (bools (List.replicate n false))=rowsOf eBl (repB n (min 1 n) s):=by
    rw[← e0];simp[bools]
  first|rw[e0]|rw[e0']
  refine W_loopS (fun i:Nat=>(⟨slots [(7,.ref 0 1 0 n),(8,.lit (.int .i64 i))],[.arr 1 (rowsOf eBl (repB n i s))]⟩:St)) (fun i=>i≤n∧(i=0→n=0)) (fun i=>n - i) (min 1 n) ⟨by omega,by omega⟩ (Xv X0) ?_
  rintro i ⟨hi,hr⟩ Ql hnl hel
  by_cases hi':i<n
  · have e1:i+min i (n - i)≤n:=by omega
    have hl:=repB_len (s:=s) hi
    have hrt:=fun n s=>repB_take (n:=n) (s:=s) (Nat.le_refl i)
    ((repeat' (first|refine Va (X5 @Option.map_none.{0,0} @List.drop_zero.{0} @hrt @rows_length (X3 @List.length_replicate.{0} @rows_scal @hl)) ?_|(refine Xi ?_ ?_<;>try intro ht)|exact Xx|fail)))
    rw[repB_copy e1 (Nat.min_le_left _ _)]
    exact hnl _ (i+min i (n - i)) ⟨by omega,by omega⟩ (by omega) (Xv X0)
  · obtain rfl:i=n:=by omega
    ((repeat' (first|refine Va X0 ?_|(refine Xi ?_ ?_<;>try intro ht)|exact Xx|fail)))
    refine hel _ _ rfl ?_;clear hnl hel Ql
    repeat (refine Xu ?_)
    refine Vb X0 ?_
    have e2:repB i i s=List.replicate i s:=by simp[repB]
    rw[e2]
    exact Xw false [0] X0
def allV (m:Mdl):List (List Bool):=m.cls.map fun l=>List.replicate l.length true
def allT (m:Mdl):List (List Bool):=if validV m=0 then allV m else []
theorem eBs_app (xs:List (List Bool)) (b:List Bool):rowsOf eBs xs++[[AV.tree 1 (bools b)]]=rowsOf eBs (xs++[b]):=by simp[rowsOf,eBs]
theorem all_ok (m:Mdl) (hm:MB m):Holds Tryz.prog 71 [.agg (eMdl m)] [] (.tree 1 (rowsOf eBs (allT m))) []:=by
  have h1:=valid_ok m hm
  have hm1:=hm.cls
  generalize hres:allT m=res
  unfold allT at hres
  refine Holds.of_body' (fn:=Tryz.f71) 25 0 [.tmp 2] Tryz.func71 rfl rfl rfl rfl rfl (by simp) ?_
  by_cases hv:validV m=0
  rotate_left
  · rw[if_neg hv] at hres
    rw[← hres]
    generalize validV m=e at *
    ((repeat' (first|refine Vd X0 h1 ?_|(refine Xi ?_ ?_<;>try intro ht)|exact Xx|fail)))
    exact RetOK_sel [] true (by decide) trivial (by decide) (by decide) ArgR.nil
  rw[if_pos hv] at hres
  rw[hv] at h1
  have hvm:=valid_iff.1 hv
  have hc24:=hvm.cls
  ((repeat' (first|refine Vd @bne_self_eq_false.{0} h1 ?_|(refine Xi ?_ ?_<;>try intro ht)|exact Xx|fail)))
  refine W_loopS (fun z:Nat × List (List Bool)=>(⟨slots [(1,.ptr 0 0 0),(3,.ref 1 1 0 z.2.length),(10,.tree 1 (rowsOf eCls m.cls)),(11,.lit (.int .i64 m.cls.length)),(12,.lit (.int .i64 z.1))],[.var (eMdl m),.arr 1 (rowsOf eBs z.2)]⟩:St))
    (fun z=>z.1≤m.cls.length∧z.2=(allV m).take z.1) (fun z=>m.cls.length - z.1) (0,[]) ⟨Nat.zero_le _,rfl⟩ ?_ ?_
  · refine Turns.trans (Turns.nil 3 1 (by simp only[Kc,simprocAttr]) (by decide)) ?_
    exact Xv X0
  rintro ⟨i,xs⟩ ⟨hi,hxs⟩ Ql hnl hel
  dsimp only at hi hxs ⊢
  have hal:(allV m).length=m.cls.length:=by simp[allV]
  by_cases hi':i<m.cls.length
  · have hxl:xs.length=i:=by rw[hxs,List.length_take];omega
    have hts:(allV m).take (i+1)=xs++[List.replicate (m.cls.getD i default).length true]:=by
      rw[take_snoc (by omega),← hxs];unfold allV;rw[map_getD _ _ _ hi']
    have hl24:=hvm.opt _ (getD_mem (d:=default) hi')
    generalize hcc:m.cls.getD i default=c at *
    have hrep:=repeatB_ok true c.length (by omega)
    repeat' (first|((fail_if_success (first|refine W_at 7 ?_|refine W_atE 7 ?_));refine Xr (X2 @hcc @eCls.eq_1) ?_;intro K hK)|(refine hK _ ?_;clear hK K)|(refine Xi ?_ ?_<;>try intro ht)|refine Xy ?_|refine Xd ?_ ?_|exact Xx|fail)
    refine W_region_te 5 (by decide) ?_
    intro K K1 hK hK1
    simp (disch:=omega) only[Ac,↓Pc,simprocAttr,List.take]
    refine callK_snap [] hrep (by decide) trivial ⟨ArgR.fz (rows:=rowsOf eBl [true]) rfl rfl (by simp),.pure rfl,trivial⟩ rfl (by simp[flatO,eBl,rowsOf,flat]) ?_
    simp (disch:=omega) only[Ac,↓Pc,simprocAttr]
    refine hK1 _ ⟨slots [(1,.ptr 0 0 0),(3,.ref 1 1 0 xs.length),(10,.tree 1 (rowsOf eCls m.cls)),(11,.lit (.int .i64 m.cls.length)),(12,.lit (.int .i64 i)),(16,.ref 1 1 0 xs.length),(20,.tree 1 (bools (List.replicate c.length true)))],[.var (eMdl m),.arr 1 (rowsOf eBs xs)]⟩ ?_ ?_
    · rw[← eBl_bools]
      exact Xs true [0,1] X0
    clear hK1 K1
    simp (disch:=omega) only[Ac,↓Pc,simprocAttr,List.drop,eBs_app]
    repeat' (first|with_reducible refine And.intro ?_ ?_|omega)
    refine hK _ ?_;clear hK K
    repeat (refine Xu ?_)
    refine Va X0 ?_
    refine hnl _ (i+1,xs++[List.replicate c.length true]) ⟨by dsimp only;omega,hts.symm⟩ (by dsimp only;omega) ?_
    exact Xs false [0,3] X0
  · rw[List.take_of_length_le (by omega)] at hxs
    ((repeat' (first|refine Va X0 ?_|(refine Xi ?_ ?_<;>try intro ht)|exact Xx|fail)))
    refine hel _ _ rfl ?_;clear hnl hel Ql
    repeat (refine Xu ?_)
    refine Vb X0 ?_
    rw[hxs,hres]
    exact Xw true [] X0
abbrev St3:=Nat × List (List Bool) × List Int
def eAb:List Int→AV
  | []=>.lit (.slice none 0 0)
  | x::r=>.tree 1 (ints (x::r))
def eSt (s:St3):List AV:=[.lit (.int .i64 s.1),.tree 1 (rowsOf eBs s.2.1),eAb s.2.2]
theorem eAb_ok (l:List Int):(∃ y,eAb l=AV.lit y∧y.oneCell'=true)∨∃ s r,eAb l=.tree s r:=by
  cases l with
  | nil=>exact .inl ⟨_,rfl,rfl⟩
  | cons x r=>exact .inr ⟨_,_,rfl⟩
theorem eAb_nr (l:List Int) (x:Value):noRefL [eAb l,.lit x]=true:=by cases l<;>rfl
theorem eAb_scal (l:List Int):scal (eAb l)=true:=by cases l<;>rfl
instance:Row eSt 3:=⟨fun _=>rfl,fun x v hv=>by
  simp only[eSt,List.mem_cons,List.not_mem_nil,or_false] at hv
  rcases hv with rfl | rfl | rfl
  · exact .inl ⟨_,rfl,rfl⟩
  · exact .inr ⟨_,_,rfl⟩
  · exact eAb_ok _⟩
def nd (P:List Nd) (i:Nat):Nd:=P.getD i default
def kidS (P:List Nd) (s:St3) (o:Nat):St3:=(((nd P s.1).kids.getD o 0).toNat,onlyV s.2.1 (nd P s.1).cls.toNat o,s.2.2++[(nd P s.1).cls])
def kidsT (P:List Nd) (s:St3) (n:Nat):List St3:=(List.range n).map (kidS P s)
def kidsF (P:List Nd) (s:St3):List St3:=kidsT P s (nd P s.1).kids.length
theorem kidsT_succ (P:List Nd) (s:St3) (n:Nat):kidsT P s (n+1)=kidsT P s n++[kidS P s n]:=by unfold kidsT;rw[List.range_succ,List.map_append];rfl
def vis (P:List Nd):Nat→St3→List St3
  | 0,_=>[]
  | f+1,s=>s::((kidsF P s).reverse.flatMap (vis P f))
def vs (P:List Nd) (s:St3):List St3:=vis P (P.length - s.1) s
def Down (P:List Nd):Prop:=∀ i,i<P.length→∀ k∈(nd P i).kids,(i:Int)<k∧k<P.length
theorem shaped_node {m:Mdl} {P:List Nd} (h:shapedB m P=true) {i:Nat} (hi:i<P.length):nodeB m P.length i (nd P i)=true:=by
  cases hb:nodeB m P.length i (nd P i) with
  | true=>rfl
  | false=>rw[shaped_bad hi hb] at h;cases h
theorem shaped_down {m:Mdl} {P:List Nd} (h:shapedB m P=true):Down P:=fun i hi k hk=>by
  have:=shaped_node h hi
  unfold nodeB at this
  rw[Bool.and_eq_true,List.all_eq_true] at this
  have h2:=this.2 k hk
  unfold kidB at h2
  exact of_decide_eq_true h2
theorem shaped_len {m:Mdl} {P:List Nd} (h:shapedB m P=true):1≤P.length∧P.length≤20000:=by
  by_cases hs:1≤P.length∧P.length≤20000
  · exact hs
  · rw[shaped_size hs] at h;cases h
theorem kid_mem {P:List Nd} {s t:St3} (h:t∈kidsF P s) :∃o,o<(nd P s.1).kids.length∧t=kidS P s o:=by
  unfold kidsF kidsT at h
  obtain ⟨o,ho,rfl⟩:=List.mem_map.1 h
  exact⟨o,List.mem_range.1 ho,rfl⟩
theorem kid_in {P:List Nd} (hd:Down P) {s:St3} (hs:s.1<P.length) {o:Nat} (ho:o<(nd P s.1).kids.length):s.1<(kidS P s o).1∧(kidS P s o).1<P.length∧(((kidS P s o).1:Nat):Int)=(nd P s.1).kids.getD o 0:=by
  have:=hd s.1 hs _ (getD_mem (l:=(nd P s.1).kids) (i:=o) (d:=0) ho)
  unfold kidS
  dsimp only
  omega
theorem vis_st {P:List Nd} (hd:Down P):∀ (f:Nat) (s:St3),s.1<P.length→P.length - s.1≤f→vis P f s=vis P (P.length - s.1) s:=by
  intro f
  induction f using Nat.strongRecOn with
  | _ f ih =>
    intro s hs hf
    cases f with
    | zero=>omega
    | succ f =>
      obtain ⟨g,hg⟩ :∃g,P.length - s.1=g+1:=⟨P.length - s.1 - 1,by omega⟩
      rw[hg,vis,vis]
      refine congrArg _ ?_
      have key:∀ t∈(kidsF P s).reverse,vis P f t=vis P g t:=fun t ht=>by
        obtain ⟨o,ho,rfl⟩:=kid_mem (List.mem_reverse.1 ht)
        obtain ⟨h1,h2,_⟩:=kid_in hd hs ho
        rw[ih f (by omega) _ h2 (by omega),ih g (by omega) _ h2 (by omega)]
      generalize (kidsF P s).reverse=L at key
      induction L with
      | nil=>rfl
      | cons t L ihL=>rw[List.flatMap_cons,List.flatMap_cons,key t (by simp),ihL fun u hu=>key u (by simp[hu])]
theorem vs_step {P:List Nd} (hd:Down P) {s:St3} (hs:s.1<P.length):vs P s=s::(kidsF P s).reverse.flatMap (vs P):=by
  unfold vs
  obtain ⟨g,hg⟩ :∃g,P.length - s.1=g+1:=⟨P.length - s.1 - 1,by omega⟩
  rw[hg,vis]
  refine congrArg _ ?_
  have key:∀ t∈(kidsF P s).reverse,vis P g t=vis P (P.length - t.1) t:=fun t ht=>by
    obtain ⟨o,ho,rfl⟩:=kid_mem (List.mem_reverse.1 ht)
    obtain ⟨h1,h2,_⟩:=kid_in hd hs ho
    exact vis_st hd g _ h2 (by omega)
  generalize (kidsF P s).reverse=L at key
  induction L with
  | nil=>rfl
  | cons t L ihL=>rw[List.flatMap_cons,List.flatMap_cons,key t (by simp),ihL fun u hu=>key u (by simp[hu])]
def runL {α:Type} (P:List Nd) (step:α→St3→α × Bool):List St3→α→α × Bool
  | [],a=>(a,true)
  | s::L,a=>if s.2.2.contains (nd P s.1).cls=true then (a,false) else if (step a s).2=true then runL P step L (step a s).1 else ((step a s).1,false)
def root (m:Mdl):St3:=(0,allT m,[])
def walkV {α:Type} (m:Mdl) (P:List Nd) (step:α→St3→α × Bool) (a:α):α × Bool :=
  if validV m=0∧shapedB m P=true then runL P step (vs P (root m)) a else (a,false)
def GoodS (m:Mdl) (P:List Nd) (s:St3):Prop:=s.1<P.length∧FitsP m s.2.1∧s.2.2.length≤s.1
theorem fits_map {m:Mdl} {x y:List (List Bool)} (h:FitsP m x) (he:y.map List.length=x.map List.length):FitsP m y:=by
  have hl:=congrArg List.length he
  rw[List.length_map,List.length_map] at hl
  refine⟨by rw[hl];exact h.1,fun i hi=>?_⟩
  have h2:=congrArg (fun z=>z[i]?) he
  simp only[List.getElem?_map] at h2
  rw[List.getElem?_eq_getElem hi,List.getElem?_eq_getElem (by omega)] at h2
  simp only[Option.map_some,Option.some.injEq] at h2
  rw[← h.2 i (by omega),List.getD_eq_getElem?_getD,List.getD_eq_getElem?_getD,List.getElem?_eq_getElem hi,List.getElem?_eq_getElem (by omega)]
  exact h2
theorem good_kid {m:Mdl} {P:List Nd} (hd:Down P) {s:St3} (h:GoodS m P s) {o:Nat} (ho:o<(nd P s.1).kids.length):GoodS m P (kidS P s o) :=
  ⟨(kid_in hd h.1 ho).2.1,fits_map h.2.1 (onlyV_len _ _ _),by
    have h1:=(kid_in hd h.1 ho).1
    have h2:=h.2.2
    show (s.2.2++[_]).length≤_
    rw[List.length_append,List.length_singleton];omega⟩
theorem all_fits {m:Mdl} (h:VM m):FitsP m (allT m):=by
  unfold allT
  rw[if_pos (valid_iff.2 h)]
  refine⟨by simp[allV],fun i hi=>?_⟩
  have hi':i<m.cls.length:=by simpa [allV] using hi
  unfold allV
  rw[map_getD _ _ _ hi',List.length_replicate]
def LenOK:List St3→Prop
  | []=>True
  | t::T=>T.length≤24 * t.1∧LenOK T
theorem LenOK.push {T:List St3} {i:Nat} (h:LenOK T) (hT:T.length≤24 * i):∀ (L:List St3),(∀ t∈L,i<t.1)→L.length≤24→LenOK (L++T)
  | [],_,_=>h
  | t::L,hl,hn=>by
    have h1:=hl t (by simp)
    have h2:=LenOK.push h hT L (fun u hu=>hl u (by simp[hu])) (by simp at hn;omega)
    refine⟨?_,h2⟩
    simp only[List.length_cons] at hn
    show (L++T).length≤_
    rw[List.length_append];omega
end T

