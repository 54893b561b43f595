import Derived.Test.YtdipcmigdbnheaaGreatX23
import Derived.Test.YtdipcmigdbnheaaGreatX15
set_option linter.unusedVariables false
set_option linter.unusedSimpArgs false
set_option linter.unnecessarySimpa false
set_option linter.unusedSectionVars false
set_option maxHeartbeats 64000000
set_option maxRecDepth 20000
open Nat renaming zero_le→aM,le_refl→aG
open List renaming getElem?_eq_some_iff→aQ,length_take→gV,append_nil→gA,append_assoc→dI,length_append→bV,length_set→bI,take_of_length_le→fN,length_singleton→v8
open Bool renaming false_eq_true→jF
open Go Go.Am Go.Proofs
open Nat (reduceEqDiff reduceAdd reduceLeDiff reduceMul)
open Int (reduceNeg reduceLE reduceToNat)
namespace T
theorem acQ {m:aj} (hm:VM m) {gi ai bi:Nat} {D E:List (Nat × Nat)} {S T:List (List Nm)} {os:List Ob} (h:LO bC (GB m gi ai bi D E) D E S T os) {B:Int} (hg:LG m B (S,T)) {left:List (List Bool)} (hf:eG m left) (c:Nat) (hc:c<m.cls.length) :
    eO Tryz.prog 178 [.ptr gi 0 0,.lit (.int .i64 c),.tree 1 (rowsOf bg left)] os fun r ob=>ga os ob∧∃ id,r=.ref id 2 0 (jl (S.getD c default) (left.getD c default)).length∧ob[id]?=some (.arr 2 (rowsOf bC (jl (S.getD c default) (left.getD c default)))):=by
  obtain ⟨fg,fa,fb⟩:=H5 h
  have hD:=h.rD.len
  have jS:S.length=m.cls.length:=hg.s
  have Ik:=hm.cls
  have eP:=hf.1
  obtain ⟨TX,rD2⟩:=h.rD.row c (by omega)
  have TY:(S.getD c default).length=(m.cls.getD c default).length:=hg.sl c hc
  have gP:=hf.2 c (by omega)
  have afU:=hm.opt _ (aC (l:=m.cls) (i:=c) (d:=default) hc)
  generalize a7:S.getD c default=row at *
  generalize kX:left.getD c default=lc at *
  refine eO.aD (fn:=Tryz.f178) 36 os.length [.tmp 6] Tryz.func178 rfl rfl rfl rfl rfl (by simp) ?_
  refine Vb (X5 @fg @fa @gC.eq_1 @TX @gT.eq_1) ?_
  have xn:(D.getD c default).2=row.length:=rD2.symm
  refine aU (fun z:Nat × List Ob × Nat × List Nm=>(⟨aw [(1,.lit (.int .i64 c)),(2,.tree 1 (rowsOf bg left)),(7,.ref z.2.2.1 2 0 z.2.2.2.length),(16,.ref (D.getD c default).1 2 0 row.length),(17,.lit (.int .i64 row.length)),(18,.lit (.int .i64 z.1))],z.2.1⟩:St))
    (fun z=>z.1≤row.length∧ga os z.2.1∧z.2.1[z.2.2.1]?=some (.arr 2 (rowsOf bC z.2.2.2))∧os.length≤z.2.2.1∧z.2.2.2=jl (row.take z.1) (lc.take z.1)∧z.2.2.2.length≤z.1)
    (fun z=>row.length - z.1) (0,os++[.arr 2 []],os.length,[]) ⟨aM _,(ga.refl os).app _,mi _ _ _,aG _,rfl,aG _⟩ ?_ ?_
  · refine aB.trans (aB.nil 7 2 (by simp only[Kc,simprocAttr]) (by decide)) ?_
    exact Xv @xn
  rintro ⟨i,ob,ti,xs⟩ ⟨hi,bQ,fy,ln,ew,pR⟩ Ql aq av
  dsimp only at hi bQ fy ln ew pR ⊢
  have r1:=bQ _ _ TX
  have Ey:=bK r1
  have rX:=bK fy
  have Iv:=hU fy
  have zo:=(aQ.1 fy).1
  by_cases hi':i<row.length
  · have h1:=iD hi'
    have h2:=iD (l:=lc) (k:=i) (by omega)
    have h3:=H3 (row.getD i default) (lc.getD i default) (row.take i) (lc.take i) (by rw[gV,gV];omega)
    rw[← h1,← h2,← ew] at h3
    have sx:lc.getD i default=lc.getD i false:=rfl
    rw[sx] at h3
    generalize cT:row.getD i default=p at *
    generalize TZ:lc.getD i false=is at *
    cases is
    · simp only[jF,if_false,gA] at h3
      ((repeat' (first|refine Va (X5 @r1 @Ey @bC.eq_1 @cT (X4 @kX @TZ @bg.eq_1 @dC)) ?_|(refine Xi ?_ ?_<;>try intro ht)|exact Xx|fail)))
      refine aq _ (i+1,ob++[.var (bC p)],ti,xs) ⟨by dsimp only;omega,bQ.app _,rX _,ln,h3.symm,by dsimp only;omega⟩ (by dsimp only;omega) ?_
      exact Xv X0
    · simp only[if_true] at h3
      have Iw:rowsOf bC xs++[[AV.lit (.int .i64 p.1),.lit (.bool p.2)]]=rowsOf bC (xs++[p]):=by simp[rowsOf,bC]
      ((repeat' (first|refine Va (X5 @r1 @Ey @fy @rX (X5 @Iv @bC.eq_1 @cT @kX (X5 @TZ @bg.eq_1 @Iw @dC (X3 @dI.{0} @bV.{0} @bI.{0})))) ?_|(refine Xi ?_ ?_<;>try intro ht)|exact Xx|fail)))
      refine aq _ (i+1,ob.set ti .gone++[.var (bC p),.arr 2 [bC p],.arr 2 (rowsOf bC (xs++[p]))],ob.length+2,xs++[p]) ⟨by dsimp only;omega,(bQ.set ln).app _,zf _ _ _ _ _,by dsimp only;have:=bQ.len;omega,h3.symm,by simp;omega⟩ (by dsimp only;omega) ?_
      exact Xv @bC.eq_1
  · rw[fN (by omega),fN (by omega)] at ew
    ((repeat' (first|refine Va X0 ?_|(refine Xi ?_ ?_<;>try intro ht)|exact Xx|fail)))
    refine av _ _ rfl ?_;clear aq av Ql
    repeat (refine Xu ?_)
    refine Vb X0 ?_
    unfold fU
    simp only[dX,dQ]
    simp (disch:=omega) only[Ac,↓Pc,simprocAttr]
    rw[← ew]
    exact⟨_,_,⟨bQ,ti,rfl,fy⟩,fJ rfl bQ.len rfl⟩
theorem acS {m:aj} (hm:VM m) {gi ai bi:Nat} {D E:List (Nat × Nat)} {S T:List (List Nm)} {os:List Ob} (h:LO bC (GB m gi ai bi D E) D E S T os) {B:Int} (hg:LG m B (S,T)) {left:List (List Bool)} (hf:eG m left) (c:Nat) (hc:c<m.ae.length) :
    eO Tryz.prog 179 [.ptr gi 0 0,.lit (.int .i64 c),.tree 1 (rowsOf bg left)] os fun r ob=>ga os ob∧∃ id,r=.ref id 2 0 (jl (T.getD c default) (kP m left c)).length∧ob[id]?=some (.arr 2 (rowsOf bC (jl (T.getD c default) (kP m left c)))):=by
  obtain ⟨fg,fa,fb⟩:=H5 h
  have eg:=bK fg
  have ea:=bK fa
  have eb:=bK fb
  have hD:=h.rD.len
  have hE:=h.rE.len
  have jS:S.length=m.cls.length:=hg.s
  have Ix:T.length=m.ae.length:=hg.t
  have Ik:=hm.cls
  have yN:=hm.ae
  have eP:=hf.1
  obtain ⟨T1,rE2⟩:=h.rE.row c (by omega)
  have zp:(T.getD c default).length=(m.ae.getD c default).az.length:=hg.tl c hc
  have dG:=jh hm.pr _ (aC (d:=default) hc)
  obtain ⟨pb1,pb2,pb3,pb4⟩:=acP dG
  have zo:=Iu dG hm
  have AW:=hf.2 (m.ae.getD c default).fst.toNat (by omega)
  have vB:=hf.2 (m.ae.getD c default).snd.toNat (by omega)
  have hoa:=hm.opt _ (aC (l:=m.cls) (i:=(m.ae.getD c default).fst.toNat) (d:=default) (by omega))
  have aT:=hm.opt _ (aC (l:=m.cls) (i:=(m.ae.getD c default).snd.toNat) (d:=default) (by omega))
  obtain ⟨T2,rP2⟩:=h.rD.row (m.ae.getD c default).snd.toNat (by omega)
  have T3:(S.getD (m.ae.getD c default).snd.toNat default).length=(m.cls.getD (m.ae.getD c default).snd.toNat default).length:=hg.sl _ (by omega)
  have acW:kP m left c=uu (left.getD (m.ae.getD c default).fst.toNat default) (left.getD (m.ae.getD c default).snd.toNat default):=rfl
  have vP:=HP (left.getD (m.ae.getD c default).snd.toNat default) (left.getD (m.ae.getD c default).fst.toNat default)
  have T4:=D3 (left.getD (m.ae.getD c default).snd.toNat default) (left.getD (m.ae.getD c default).fst.toNat default)
  rw[← acW] at vP T4
  generalize a7:T.getD c default=row at *
  generalize cT:m.ae.getD c default=p at *
  generalize hLA:left.getD p.fst.toNat default=la at *
  generalize hLB:left.getD p.snd.toNat default=lb at *
  generalize kP m left c=pb at *
  have T5:(D.getD p.snd.toNat default).2=lb.length:=by rw[← rP2,T3,vB]
  have bM:row.length=pb.length:=by
    rw[vP,AW,vB,zp]
    have:=pb4
    rw[← Int.natCast_mul] at this
    exact Int.ofNat_inj.1 this
  have xn:(E.getD c default).2=row.length:=rE2.symm
  have qp:=bK T2
  have qe:=bK T1
  refine eO.aD (fn:=Tryz.f179) 70 os.length [.tmp 6] Tryz.func179 rfl rfl rfl rfl rfl (by simp) ?_
  (((refine Vb (X5 @fg @fa @fb @eg (X5 @ea @eb @gC.eq_1 @T2 (X5 @qp @T1 @qe @gT.eq_1 (X5 @cT @bu.eq_1 @dC @T5 @xn)))) ?_)))
  refine aU (fun z:Nat × List Ob × Nat × List Nm=>(⟨aw [(2,.tree 1 (rowsOf bg left)),(7,.ptr os.length 0 0),(8,.lit (.int .i64 lb.length)),(9,.ref z.2.2.1 2 0 z.2.2.2.length),(35,.ref (E.getD c default).1 2 0 row.length),(36,.lit (.int .i64 row.length)),(37,.lit (.int .i64 z.1))],z.2.1⟩:St))
    (fun z=>z.1≤row.length∧ga (os++[.var (bu p)]) z.2.1∧z.2.1[z.2.2.1]?=some (.arr 2 (rowsOf bC z.2.2.2))∧os.length<z.2.2.1∧z.2.2.2=jl (row.take z.1) (pb.take z.1)∧z.2.2.2.length≤z.1)
    (fun z=>row.length - z.1) (0,(os++[.var (bu p)])++[.arr 2 []],(os++[Ob.var (bu p)]).length,[]) ⟨aM _,(ga.refl _).app _,mi _ _ _,by simp,rfl,aG _⟩ ?_ ?_
  · refine aB.trans (aB.nil 9 2 (by simp only[Kc,simprocAttr]) (by decide)) ?_
    exact Xv (X2 @xn @T5)
  rintro ⟨i,ob,ti,xs⟩ ⟨hi,bQ,fy,ln,ew,pR⟩ Ql aq av
  dsimp only at hi bQ fy ln ew pR ⊢
  have r1:=bQ _ _ (qe [.var (bu p)])
  have rv:ob[os.length]?=some (.var (bu p)):=bQ _ _ (mi _ _ _)
  have Ey:=bK r1
  have erv:=bK rv
  have rX:=bK fy
  have Iv:=hU fy
  have Bw:=(aQ.1 fy).1
  have cw:=bQ.len
  rw[bV,v8] at cw
  by_cases hi':i<row.length
  · have h1:=iD hi'
    have h2:=iD (l:=pb) (k:=i) (by omega)
    have h3:=H3 (row.getD i default) (pb.getD i default) (row.take i) (pb.take i) (by rw[gV,gV];omega)
    rw[← h1,← h2,← ew] at h3
    have sx:pb.getD i default=(la.getD (i / lb.length) false && lb.getD (i % lb.length) false):=T4 i (by omega)
    rw[sx] at h3
    have T6:0<lb.length:=by
      rcases Nat.eq_zero_or_pos lb.length with h0 | h0
      · rw[h0,Nat.mul_zero] at vP;omega
      · exact h0
    have hdiv:i / lb.length<la.length:=by rw[Nat.div_lt_iff_lt_mul T6];omega
    have vc:=Nat.mod_lt i T6
    have hq:((i:Int).tdiv lb.length)=((i / lb.length:Nat):Int):=by rw[Int.tdiv_eq_ediv_of_nonneg (by omega)];simp
    have hr:((i:Int).tmod lb.length)=((i % lb.length:Nat):Int):=by rw[Int.tmod_eq_emod_of_nonneg (by omega)];simp
    have tq:((i:Int) / (lb.length:Int))=((i / lb.length:Nat):Int):=by simp
    have iA:((i:Int) % (lb.length:Int))=((i % lb.length:Nat):Int):=by simp
    generalize hdd:i / lb.length=dd at *
    generalize ur:i % lb.length=mm at *
    generalize sW:row.getD i default=q at *
    generalize z':la.getD dd false=ia at *
    generalize Gq:lb.getD mm false=ib at *
    have Iw:rowsOf bC xs++[[AV.lit (.int .i64 q.1),.lit (.bool q.2)]]=rowsOf bC (xs++[q]):=by simp[rowsOf,bC]
    cases ia<;>cases ib
    all_goals
      simp only[Bool.false_and,Bool.true_and,jF,if_false,if_true,gA] at h3
      ((repeat' (first|refine Va (X5 @r1 @Ey @rv @erv (X5 @fy @rX @Iv @bC.eq_1 (X5 @bu.eq_1 @sW @hLA @hLB (X5 @hq @hr @tq @iA (X5 @z' @Gq @bg.eq_1 @Iw (X5 @dC @Int.toNat_natCast @dI.{0} @bV.{0} @bI.{0})))))) ?_|(refine Xi ?_ ?_<;>try intro ht)|exact Xx|fail)))
    all_goals first
      | (refine aq _ (i+1,ob++[.var (bC q)],ti,xs) ⟨by dsimp only;omega,bQ.app _,rX _,ln,h3.symm,by dsimp only;omega⟩ (by dsimp only;omega) ?_
         exact Xv @bC.eq_1;done)
      | (refine aq _ (i+1,ob.set ti .gone++[.var (bC q),.arr 2 [bC q],.arr 2 (rowsOf bC (xs++[q]))],ob.length+2,xs++[q]) ⟨by dsimp only;omega,(bQ.set (by rw[bV,v8];omega)).app _,zf _ _ _ _ _,by dsimp only;omega,h3.symm,by simp;omega⟩ (by dsimp only;omega) ?_
         exact Xv @bC.eq_1;done)
  · rw[fN (by omega),fN (by omega)] at ew
    ((repeat' (first|refine Va X0 ?_|(refine Xi ?_ ?_<;>try intro ht)|exact Xx|fail)))
    refine av _ _ rfl ?_;clear aq av Ql
    repeat (refine Xu ?_)
    refine Vb X0 ?_
    unfold fU
    simp only[dX,dQ]
    simp (disch:=omega) only[Ac,↓Pc,simprocAttr]
    rw[← ew]
    refine⟨_,ob,⟨fun k o hk=>bQ k o (bK hk _),ti,rfl,fy⟩,fJ rfl (by omega) rfl⟩
end T

