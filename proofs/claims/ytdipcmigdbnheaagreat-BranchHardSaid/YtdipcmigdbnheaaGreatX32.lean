import Derived.Test.YtdipcmigdbnheaaGreatX30
import Derived.Test.YtdipcmigdbnheaaGreatX15
set_option linter.unusedVariables false
set_option linter.unusedSimpArgs false
set_option linter.unnecessarySimpa false
set_option linter.unusedSectionVars false
set_option maxHeartbeats 64000000
set_option maxRecDepth 20000
open Nat renaming zero_le→aD,le_refl→aH
open List renaming getElem?_eq_some_iff→aS,length_take→ez,append_nil→jc,append_assoc→cI,length_append→bJ,length_set→bm,take_of_length_le→dC,length_singleton→wD
open Bool renaming false_eq_true→jv
open Go Go.Am Go.Proofs
open Nat (reduceEqDiff reduceAdd reduceLeDiff reduceMul)
open Int (reduceNeg reduceLE reduceToNat)
namespace T
theorem aeo {m:ah} (hm:VM m) {gi ai bi:Nat} {D E:List (Nat × Nat)} {S T:List (List Nm)} {os:List Ob} (h:LO bw (GB m gi ai bi D E) D E S T os) {B:Int} (hg:LG m B (S,T)) {left:List (List Bool)} (hf:dN m left) (c:Nat) (hc:c<m.cls.length) :
    fF Tryz.prog 178 [.ptr gi 0 0,.lit (.int .i64 c),.tree 1 (rowsOf aE left)] os fun r ob=>gb os ob∧∃ id,r=.ref id 2 0 (iV (S.getD c default) (left.getD c default)).length∧ob[id]?=some (.arr 2 (rowsOf bw (iV (S.getD c default) (left.getD c default)))):=by
  obtain ⟨fg,fa,fb⟩:=Ij h
  have hD:=h.rD.len
  have jL:S.length=m.cls.length:=hg.s
  have JM:=hm.cls
  have eW:=hf.1
  obtain ⟨pV,z8⟩:=h.rD.row c (by omega)
  have Fx:(S.getD c default).length=(m.cls.getD c default).length:=hg.sl c hc
  have fA:=hf.2 c (by omega)
  have adL:=hm.opt _ (az (l:=m.cls) (i:=c) (d:=default) hc)
  generalize a6:S.getD c default=row at *
  generalize j6:left.getD c default=lc at *
  refine fF.aF (fn:=Tryz.f178) 36 os.length [.tmp 6] Tryz.func178 rfl rfl rfl rfl rfl (by simp) ?_
  refine Vb (X5 @fg @fa @gC.eq_1 @pV @cG.eq_1) ?_
  have xF:(D.getD c default).2=row.length:=z8.symm
  refine aI (fun z:Nat × List Ob × Nat × List Nm=>(⟨av [(1,.lit (.int .i64 c)),(2,.tree 1 (rowsOf aE left)),(7,.ref z.2.2.1 2 0 z.2.2.2.length),(16,.ref (D.getD c default).1 2 0 row.length),(17,.lit (.int .i64 row.length)),(18,.lit (.int .i64 z.1))],z.2.1⟩:St))
    (fun z=>z.1≤row.length∧gb os z.2.1∧z.2.1[z.2.2.1]?=some (.arr 2 (rowsOf bw z.2.2.2))∧os.length≤z.2.2.1∧z.2.2.2=iV (row.take z.1) (lc.take z.1)∧z.2.2.2.length≤z.1)
    (fun z=>row.length - z.1) (0,os++[.arr 2 []],os.length,[]) ⟨aD _,(gb.refl os).app _,jO _ _ _,aH _,rfl,aH _⟩ ?_ ?_
  · refine aA.trans (aA.nil 7 2 (by simp only[Kc,simprocAttr]) (by decide)) ?_
    exact Xv @xF
  rintro ⟨i,ob,ti,xs⟩ ⟨hi,bU,eD,jW,cF,uy⟩ Ql ak aq
  dsimp only at hi bU eD jW cF uy ⊢
  have r1:=bU _ _ pV
  have FI:=a7 r1
  have pX:=a7 eD
  have JV:=fj eD
  have wi:=(aS.1 eD).1
  by_cases hi':i<row.length
  · have h1:=eu hi'
    have h2:=eu (l:=lc) (k:=i) (by omega)
    have h3:=Ig (row.getD i default) (lc.getD i default) (row.take i) (lc.take i) (by rw[ez,ez];omega)
    rw[← h1,← h2,← cF] at h3
    have qN:lc.getD i default=lc.getD i false:=rfl
    rw[qN] at h3
    generalize bT:row.getD i default=p at *
    generalize xY:lc.getD i false=is at *
    cases is
    · simp only[jv,if_false,jc] at h3
      ((repeat' (first|refine Va (X5 @r1 @FI @bw.eq_1 @bT (X4 @j6 @xY @aE.eq_1 @cZ)) ?_|(refine Xi ?_ ?_<;>try intro ht)|exact Xx|fail)))
      refine ak _ (i+1,ob++[.var (bw p)],ti,xs) ⟨by dsimp only;omega,bU.app _,pX _,jW,h3.symm,by dsimp only;omega⟩ (by dsimp only;omega) ?_
      exact Xv X0
    · simp only[if_true] at h3
      have JW:rowsOf bw xs++[[AV.lit (.int .i64 p.1),.lit (.bool p.2)]]=rowsOf bw (xs++[p]):=by simp[rowsOf,bw]
      ((repeat' (first|refine Va (X5 @r1 @FI @eD @pX (X5 @JV @bw.eq_1 @bT @j6 (X5 @xY @aE.eq_1 @JW @cZ (X3 @cI.{0} @bJ.{0} @bm.{0})))) ?_|(refine Xi ?_ ?_<;>try intro ht)|exact Xx|fail)))
      refine ak _ (i+1,ob.set ti .gone++[.var (bw p),.arr 2 [bw p],.arr 2 (rowsOf bw (xs++[p]))],ob.length+2,xs++[p]) ⟨by dsimp only;omega,(bU.set jW).app _,xG _ _ _ _ _,by dsimp only;have:=bU.len;omega,h3.symm,by simp;omega⟩ (by dsimp only;omega) ?_
      exact Xv @bw.eq_1
  · rw[dC (by omega),dC (by omega)] at cF
    ((repeat' (first|refine Va X0 ?_|(refine Xi ?_ ?_<;>try intro ht)|exact Xx|fail)))
    refine aq _ _ rfl ?_;clear ak aq Ql
    repeat (refine Xu ?_)
    refine Vb X0 ?_
    unfold gH
    simp only[ei,ee]
    simp (disch:=omega) only[Ac,↓Pc,simprocAttr]
    rw[← cF]
    exact⟨_,_,⟨bU,ti,rfl,eD⟩,gR rfl bU.len rfl⟩
theorem aep {m:ah} (hm:VM m) {gi ai bi:Nat} {D E:List (Nat × Nat)} {S T:List (List Nm)} {os:List Ob} (h:LO bw (GB m gi ai bi D E) D E S T os) {B:Int} (hg:LG m B (S,T)) {left:List (List Bool)} (hf:dN m left) (c:Nat) (hc:c<m.ae.length) :
    fF Tryz.prog 179 [.ptr gi 0 0,.lit (.int .i64 c),.tree 1 (rowsOf aE left)] os fun r ob=>gb os ob∧∃ id,r=.ref id 2 0 (iV (T.getD c default) (gL m left c)).length∧ob[id]?=some (.arr 2 (rowsOf bw (iV (T.getD c default) (gL m left c)))):=by
  obtain ⟨fg,fa,fb⟩:=Ij h
  have eg:=a7 fg
  have ea:=a7 fa
  have eb:=a7 fb
  have hD:=h.rD.len
  have hE:=h.rE.len
  have jL:S.length=m.cls.length:=hg.s
  have JJ:T.length=m.ae.length:=hg.t
  have JM:=hm.cls
  have xU:=hm.ae
  have eW:=hf.1
  obtain ⟨uN,Fw⟩:=h.rE.row c (by omega)
  have Cv:(T.getD c default).length=(m.ae.getD c default).ax.length:=hg.tl c hc
  have dJ:=jn hm.pr _ (az (d:=default) hc)
  obtain ⟨Vg,Vh,Vi,Fv⟩:=Jv dJ
  have wi:=Cr dJ hm
  have z4:=hf.2 (m.ae.getD c default).fst.toNat (by omega)
  have tx:=hf.2 (m.ae.getD c default).snd.toNat (by omega)
  have hoa:=hm.opt _ (az (l:=m.cls) (i:=(m.ae.getD c default).fst.toNat) (d:=default) (by omega))
  have aZ:=hm.opt _ (az (l:=m.cls) (i:=(m.ae.getD c default).snd.toNat) (d:=default) (by omega))
  obtain ⟨VZ,rP2⟩:=h.rD.row (m.ae.getD c default).snd.toNat (by omega)
  have V0:(S.getD (m.ae.getD c default).snd.toNat default).length=(m.cls.getD (m.ae.getD c default).snd.toNat default).length:=hg.sl _ (by omega)
  have JC:gL m left c=oZ (left.getD (m.ae.getD c default).fst.toNat default) (left.getD (m.ae.getD c default).snd.toNat default):=rfl
  have uw:=BM (left.getD (m.ae.getD c default).snd.toNat default) (left.getD (m.ae.getD c default).fst.toNat default)
  have V1:=EK (left.getD (m.ae.getD c default).snd.toNat default) (left.getD (m.ae.getD c default).fst.toNat default)
  rw[← JC] at uw V1
  generalize a6:T.getD c default=row at *
  generalize bT:m.ae.getD c default=p at *
  generalize CE:left.getD p.fst.toNat default=la at *
  generalize CF:left.getD p.snd.toNat default=lb at *
  generalize gL m left c=pb at *
  have V3:(D.getD p.snd.toNat default).2=lb.length:=by rw[← rP2,V0,tx]
  have a8:row.length=pb.length:=by
    rw[uw,z4,tx,Cv]
    have:=Fv
    rw[← Int.natCast_mul] at this
    exact Int.ofNat_inj.1 this
  have xF:(E.getD c default).2=row.length:=Fw.symm
  have qp:=a7 VZ
  have qe:=a7 uN
  refine fF.aF (fn:=Tryz.f179) 70 os.length [.tmp 6] Tryz.func179 rfl rfl rfl rfl rfl (by simp) ?_
  (((refine Vb (X5 @fg @fa @fb @eg (X5 @ea @eb @gC.eq_1 @VZ (X5 @qp @uN @qe @cG.eq_1 (X5 @bT @aV.eq_1 @cZ @V3 @xF)))) ?_)))
  refine aI (fun z:Nat × List Ob × Nat × List Nm=>(⟨av [(2,.tree 1 (rowsOf aE left)),(7,.ptr os.length 0 0),(8,.lit (.int .i64 lb.length)),(9,.ref z.2.2.1 2 0 z.2.2.2.length),(35,.ref (E.getD c default).1 2 0 row.length),(36,.lit (.int .i64 row.length)),(37,.lit (.int .i64 z.1))],z.2.1⟩:St))
    (fun z=>z.1≤row.length∧gb (os++[.var (aV p)]) z.2.1∧z.2.1[z.2.2.1]?=some (.arr 2 (rowsOf bw z.2.2.2))∧os.length<z.2.2.1∧z.2.2.2=iV (row.take z.1) (pb.take z.1)∧z.2.2.2.length≤z.1)
    (fun z=>row.length - z.1) (0,(os++[.var (aV p)])++[.arr 2 []],(os++[Ob.var (aV p)]).length,[]) ⟨aD _,(gb.refl _).app _,jO _ _ _,by simp,rfl,aH _⟩ ?_ ?_
  · refine aA.trans (aA.nil 9 2 (by simp only[Kc,simprocAttr]) (by decide)) ?_
    exact Xv (X2 @xF @V3)
  rintro ⟨i,ob,ti,xs⟩ ⟨hi,bU,eD,jW,cF,uy⟩ Ql ak aq
  dsimp only at hi bU eD jW cF uy ⊢
  have r1:=bU _ _ (qe [.var (aV p)])
  have rv:ob[os.length]?=some (.var (aV p)):=bU _ _ (jO _ _ _)
  have FI:=a7 r1
  have erv:=a7 rv
  have pX:=a7 eD
  have JV:=fj eD
  have ahE:=(aS.1 eD).1
  have dx:=bU.len
  rw[bJ,wD] at dx
  by_cases hi':i<row.length
  · have h1:=eu hi'
    have h2:=eu (l:=pb) (k:=i) (by omega)
    have h3:=Ig (row.getD i default) (pb.getD i default) (row.take i) (pb.take i) (by rw[ez,ez];omega)
    rw[← h1,← h2,← cF] at h3
    have qN:pb.getD i default=(la.getD (i / lb.length) false && lb.getD (i % lb.length) false):=V1 i (by omega)
    rw[qN] at h3
    have V4:0<lb.length:=by
      rcases Nat.eq_zero_or_pos lb.length with h0 | h0
      · rw[h0,Nat.mul_zero] at uw;omega
      · exact h0
    have hdiv:i / lb.length<la.length:=by rw[Nat.div_lt_iff_lt_mul V4];omega
    have vD:=Nat.mod_lt i V4
    have hq:((i:Int).tdiv lb.length)=((i / lb.length:Nat):Int):=by rw[Int.tdiv_eq_ediv_of_nonneg (by omega)];simp
    have hr:((i:Int).tmod lb.length)=((i % lb.length:Nat):Int):=by rw[Int.tmod_eq_emod_of_nonneg (by omega)];simp
    have tF:((i:Int) / (lb.length:Int))=((i / lb.length:Nat):Int):=by simp
    have gD:((i:Int) % (lb.length:Int))=((i % lb.length:Nat):Int):=by simp
    generalize V5:i / lb.length=dd at *
    generalize xQ:i % lb.length=mm at *
    generalize JX:row.getD i default=q at *
    generalize A2:la.getD dd false=ia at *
    generalize Hv:lb.getD mm false=ib at *
    have JW:rowsOf bw xs++[[AV.lit (.int .i64 q.1),.lit (.bool q.2)]]=rowsOf bw (xs++[q]):=by simp[rowsOf,bw]
    cases ia<;>cases ib
    all_goals
      simp only[Bool.false_and,Bool.true_and,jv,if_false,if_true,jc] at h3
      ((repeat' (first|refine Va (X5 @r1 @FI @rv @erv (X5 @eD @pX @JV @bw.eq_1 (X5 @aV.eq_1 @JX @CE @CF (X5 @hq @hr @tF @gD (X5 @A2 @Hv @aE.eq_1 @JW (X5 @cZ @Int.toNat_natCast @cI.{0} @bJ.{0} @bm.{0})))))) ?_|(refine Xi ?_ ?_<;>try intro ht)|exact Xx|fail)))
    all_goals first
      | (refine ak _ (i+1,ob++[.var (bw q)],ti,xs) ⟨by dsimp only;omega,bU.app _,pX _,jW,h3.symm,by dsimp only;omega⟩ (by dsimp only;omega) ?_
         exact Xv @bw.eq_1;done)
      | (refine ak _ (i+1,ob.set ti .gone++[.var (bw q),.arr 2 [bw q],.arr 2 (rowsOf bw (xs++[q]))],ob.length+2,xs++[q]) ⟨by dsimp only;omega,(bU.set (by rw[bJ,wD];omega)).app _,xG _ _ _ _ _,by dsimp only;omega,h3.symm,by simp;omega⟩ (by dsimp only;omega) ?_
         exact Xv @bw.eq_1;done)
  · rw[dC (by omega),dC (by omega)] at cF
    ((repeat' (first|refine Va X0 ?_|(refine Xi ?_ ?_<;>try intro ht)|exact Xx|fail)))
    refine aq _ _ rfl ?_;clear ak aq Ql
    repeat (refine Xu ?_)
    refine Vb X0 ?_
    unfold gH
    simp only[ei,ee]
    simp (disch:=omega) only[Ac,↓Pc,simprocAttr]
    rw[← cF]
    refine⟨_,ob,⟨fun k o hk=>bU k o (a7 hk _),ti,rfl,eD⟩,gR rfl (by omega) rfl⟩
end T

