import Derived.Test.YtibijngmebpmmaaGreatM6
import Derived.Test.YtibijngmebpmmaaGreatAmJ
import Derived.Test.YtibijngmebpmmaaGreatSM
set_option linter.unusedVariables false
set_option linter.unusedSimpArgs false
set_option linter.unnecessarySimpa false
open Go Go.Am Go.Proofs
open Nat (reduceEqDiff reduceAdd reduceLeDiff reduceMul)
open Int (reduceNeg reduceLE reduceToNat)
set_option maxRecDepth 20000
namespace T
set_option maxHeartbeats 4000000 in
theorem class_ok {m:Mdl} {gi ai bi:Nat} {D E:List (Nat × Nat)} {S T:List (List Nm)} {os:List Ob} (h:LO eNm (GB m gi ai bi D E) D E S T os) (x:Mv) (hx:0≤x.pair∧x.pair<m.prs.length) (hp4:m.prs.length≤4000) :
    Holds Tryz.prog 84 [.ptr gi 0 0,.agg (eMv x)] os (.lit (.int .i64 (mvC m x))) (os++[.var (eMv x)]):=by
  obtain ⟨fg,fa,fb⟩:=GBf h
  have eg:=oLo fg
  generalize hres:mvC m x=res
  unfold mvC at hres
  refine Holds.of_body' (fn:=Tryz.f84) 28 os.length [.tmp 4] Tryz.func84 rfl rfl rfl rfl rfl (by simp) ?_
  by_cases hs:x.side=0
  · rw[if_pos hs] at hres
    generalize hpp:m.prs.getD x.pair.toNat default=p at *
    repeat' (first|(refine Xr (X5 @fg @eg @gC.eq_1 @Oc2 (X3 @hpp @eMv.eq_1 @ePr.eq_1)) ?_;intro K hK)|refine Xo (X5 @fg @eg @gC.eq_1 @Oc2 (X3 @hpp @eMv.eq_1 @ePr.eq_1)) ?_|(refine hK _ ?_;clear hK K)|(refine Xg (X5 @fg @eg @gC.eq_1 @Oc2 (X3 @hpp @eMv.eq_1 @ePr.eq_1)) ?_ ?_<;>try intro hb)|(refine Xi ?_ ?_<;>try intro ht)|refine Xz ?_|refine Xh ?_|refine Xe ?_|refine Xd ?_ ?_|omega|with_reducible rfl|exact trivial)
    all_goals try (exfalso;omega)
    exact RetOK_all rfl (by simp) (by rw[hres])
  · rw[if_neg hs] at hres
    generalize hpp:m.prs.getD x.pair.toNat default=p at *
    repeat' (first|(refine Xr (X5 @fg @eg @gC.eq_1 @Oc2 (X3 @hpp @eMv.eq_1 @ePr.eq_1)) ?_;intro K hK)|refine Xo (X5 @fg @eg @gC.eq_1 @Oc2 (X3 @hpp @eMv.eq_1 @ePr.eq_1)) ?_|(refine hK _ ?_;clear hK K)|(refine Xg (X5 @fg @eg @gC.eq_1 @Oc2 (X3 @hpp @eMv.eq_1 @ePr.eq_1)) ?_ ?_<;>try intro hb)|(refine Xi ?_ ?_<;>try intro ht)|refine Xz ?_|refine Xh ?_|refine Xe ?_|refine Xd ?_ ?_|omega|with_reducible rfl|exact trivial)
    all_goals try (exfalso;omega)
    exact RetOK_all rfl (by simp) (by rw[hres])
set_option maxHeartbeats 4000000 in
theorem addM_ok {os:List Ob} {id r:Nat} {row:List Nm} (h:os[id]?=some (.arr 2 (rowsOf eNm row))) (hr:r<row.length) (n:Int) (hn1:In64 ((row.getD r default).1+n)) :
    Holds Tryz.prog 85 [.ptr id r 0,.lit (.int .i64 n)] os (.tup []) (os.set id (.arr 2 (rowsOf eNm (addR row r n)))):=by
  unfold In64 at hn1
  refine Holds.of_body' (fn:=Tryz.f85) 12 os.length [] Tryz.func85 rfl rfl rfl rfl rfl (by simp) ?_
  repeat' (first|(refine Xr (X3 @h @eNm.eq_1 @eNm_set) ?_;intro K hK)|refine Xo (X3 @h @eNm.eq_1 @eNm_set) ?_|(refine hK _ ?_;clear hK K)|(refine Xg (X3 @h @eNm.eq_1 @eNm_set) ?_ ?_<;>try intro hb)|(refine Xi ?_ ?_<;>try intro ht)|refine Xz ?_|refine Xh ?_|refine Xe ?_|refine Xd ?_ ?_|omega|with_reducible rfl|exact trivial)
  exact RetOK_all rfl (by simp) rfl
theorem mvC_in {m:Mdl} (hm:VM m) {x:Mv} (h1:0≤x.pair) (h2:x.pair<m.prs.length):0≤mvC m x∧mvC m x<m.cls.length:=by
  obtain ⟨a,b,c,_⟩:=pairB_in (prsL_mem hm.pr _ (getD_mem (l:=m.prs) (i:=x.pair.toNat) (d:=default) (by omega)))
  unfold mvC
  split<;>omega
set_option maxHeartbeats 8000000 in
theorem validM_ok {m:Mdl} (hm:VM m) {gi ai bi:Nat} {D E:List (Nat × Nat)} {S T:List (List Nm)} {os:List Ob} (h:LO eNm (GB m gi ai bi D E) D E S T os) {B:Int} (hg:LG m B (S,T)) (x:Mv) :
    HoldsR Tryz.prog 47 [.ptr gi 0 0,.agg (eMv x)] os fun r ob=>r=.lit (.bool (mvB m x))∧∃ l,ob=os++l:=by
  obtain ⟨fg,fa,fb⟩:=GBf h
  have eg:=oLo fg
  have ea:=oLo fa
  have hE:=h.rE.len
  have hD:=h.rD.len
  have hs1:S.length=m.cls.length:=hg.s
  have ht1:T.length=m.prs.length:=hg.t
  have hp4:=hm.prs
  have hc4:=hm.cls
  generalize hres:mvB m x=res
  unfold mvB at hres
  refine HoldsR.of_body' (fn:=Tryz.f47) 56 os.length [.tmp 4] Tryz.func47 rfl rfl rfl rfl rfl (by simp) ?_
  by_cases hr:0≤x.pair∧x.pair<m.prs.length∧0≤x.side∧x.side≤1∧-268435456≤x.amt∧x.amt≤268435456
  · rw[decide_eq_true hr,Bool.true_and] at hres
    have hcl:=class_ok (h.app [.gone]) x ⟨hr.1,hr.2.1⟩ hp4
    have eb:=oLo fb
    repeat' (first|(refine Xr (X5 @fg @eg @fb @eb (X3 @gC.eq_1 @Oc2 @eMv.eq_1)) ?_;intro K hK)|refine Xo (X5 @fg @eg @fb @eb (X3 @gC.eq_1 @Oc2 @eMv.eq_1)) ?_|(refine hK _ ?_;clear hK K)|(refine Xg (X5 @fg @eg @fb @eb (X3 @gC.eq_1 @Oc2 @eMv.eq_1)) ?_ ?_<;>try intro hb)|(refine Xi ?_ ?_<;>try intro ht)|refine Xz ?_|refine Xh ?_|refine Xe ?_|refine Xd ?_ ?_|omega|with_reducible rfl|exact trivial)
    all_goals try (exfalso;omega)
    refine W_turn (Turns.frzP 3 os.length (cells:=eMv x) (by rw[oL0];rfl) (by simp only[Kc,simprocAttr]) (by simp[eMv])) ?_
    refine W_turn (σ':=⟨slots [(0,.ptr gi 0 0),(3,.taddr (eMv x))],os++[.gone]⟩) (by rw[oS0];exact Xv @eMv.eq_1) ?_
    obtain ⟨c1,c2⟩:=mvC_in hm hr.1 hr.2.1
    obtain ⟨rD1,rD2⟩:=h.rD.row (mvC m x).toNat (by omega)
    have qd:=oLo rD1
    have hsl:=hg.sl (mvC m x).toNat (by omega)
    have ho24:=hm.opt _ (getD_mem (l:=m.cls) (i:=(mvC m x).toNat) (d:=default) (by omega))
    generalize hmc:mvC m x=c at *
    obtain ⟨bo,hd⟩ :∃b,decide (x.opt ≥ 0)=b:=⟨_,rfl⟩
    cases bo
    all_goals
      have hop:=hd
      simp only[decide_eq_true_eq,decide_eq_false_iff_not] at hop
      have hres3:res=(decide (0≤x.opt) && decide (x.opt<((D.getD c.toNat default).2:Int))):=by
        rw[← hres,Bool.eq_iff_iff,Bool.and_eq_true,decide_eq_true_eq,decide_eq_true_eq,optB_iff]
        dsimp only at hsl
        omega
      refine W_draw [1,5,11] (.take 0 (.take 1 (.take 2 (.take 3 (.take 6 (.take 10 (.take 11 (.three 4 (.take 5 (.both 7 (.both 8 (.both 9 (.take 12 (.take 13 (.take 14 (.take 15 (.take 16 (.take 17 (.take 18 .nil))))))) 12 (.take 9 (.take 13 (.take 14 (.take 15 (.take 16 (.take 17 (.take 18 .nil)))))))) 12 (.take 8 (.take 9 (.take 13 (.take 14 (.take 15 (.take 16 (.take 17 (.take 18 .nil))))))))) 12 (.take 7 (.take 8 (.take 9 (.take 13 (.take 14 (.take 15 (.take 16 (.take 17 (.take 18 .nil))))))))))) 7 (.three 4 (.take 5 (.both 8 (.both 9 (.take 12 (.take 13 (.take 14 (.take 15 (.take 16 (.take 17 (.take 18 .nil))))))) 12 (.take 9 (.take 13 (.take 14 (.take 15 (.take 16 (.take 17 (.take 18 .nil)))))))) 12 (.take 8 (.take 9 (.take 13 (.take 14 (.take 15 (.take 16 (.take 17 (.take 18 .nil)))))))))) 8 (.three 4 (.take 5 (.both 9 (.take 12 (.take 13 (.take 14 (.take 15 (.take 16 (.take 17 (.take 18 .nil))))))) 12 (.take 9 (.take 13 (.take 14 (.take 15 (.take 16 (.take 17 (.take 18 .nil))))))))) 9 (.both 4 (.take 5 (.take 12 (.take 13 (.take 14 (.take 15 (.take 16 (.take 17 (.take 18 .nil)))))))) 12 (.take 4 (.take 5 (.take 13 (.take 14 (.take 15 (.take 16 (.take 17 (.take 18 .nil))))))))) 12 (.take 4 (.take 5 (.take 9 (.take 13 (.take 14 (.take 15 (.take 16 (.take 17 (.take 18 .nil)))))))))) 12 (.take 4 (.take 5 (.take 8 (.take 9 (.take 13 (.take 14 (.take 15 (.take 16 (.take 17 (.take 18 .nil))))))))))) 12 (.take 4 (.take 5 (.take 7 (.take 8 (.take 9 (.take 13 (.take 14 (.take 15 (.take 16 (.take 17 (.take 18 .nil))))))))))))))))))) rfl (by decide) (by decide +kernel) ?_
      simp (disch:=omega) only[Ac,↓Pc,simprocAttr,planW_three,planW_both,planW_take,planW_nil,stepAt,↓Lq,fg,eg,fa,ea,gC,eRf,Oc2,qd,rD1,eMv,hd]
      repeat' (first|with_reducible refine And.intro ?_ ?_|omega|with_reducible rfl|(refine callK_all hcl (by simp) ?_;simp (disch:=omega) only[Ac,↓Pc,simprocAttr,planW_three,planW_both,planW_take,planW_nil,stepAt,↓Lq,fg,eg,fa,ea,gC,eRf,Oc2,qd,rD1,eMv,hd,List.append_assoc]))
      all_goals
        repeat (first|refine Xu ?_)
        repeat' (first|(refine Xr X0 ?_;intro K hK)|refine Xo X0 ?_|(refine hK _ ?_;clear hK K)|(refine Xg X0 ?_ ?_<;>try intro hb)|(refine Xi ?_ ?_<;>try intro ht)|refine Xz ?_|refine Xh ?_|refine Xe ?_|refine Xd ?_ ?_|omega|with_reducible rfl|exact trivial)
        unfold retR
        simp only[resW,retV]
        simp (disch:=omega) only[Ac,↓Pc,simprocAttr]
        refine⟨.lit (.bool res),_,⟨rfl,_,rfl⟩,RetOK_all rfl (by simp) ?_⟩
        rw[hres3]
        first|rfl|(rw[decide_eq_true hop,Bool.true_and])|(rw[decide_eq_false hop,Bool.false_and])
  · rw[decide_eq_false hr,Bool.false_and] at hres
    have eb:=oLo fb
    repeat' (first|(refine Xr (X5 @fg @eg @fb @eb (X3 @gC.eq_1 @Oc2 @eMv.eq_1)) ?_;intro K hK)|refine Xo (X5 @fg @eg @fb @eb (X3 @gC.eq_1 @Oc2 @eMv.eq_1)) ?_|(refine hK _ ?_;clear hK K)|(refine Xg (X5 @fg @eg @fb @eb (X3 @gC.eq_1 @Oc2 @eMv.eq_1)) ?_ ?_<;>try intro hb)|(refine Xi ?_ ?_<;>try intro ht)|refine Xz ?_|refine Xh ?_|refine Xe ?_|refine Xd ?_ ?_|omega|with_reducible rfl|exact trivial)
    all_goals try (exfalso;omega)
    all_goals
      unfold retR
      simp only[resW,retV]
      simp (disch:=omega) only[Ac,↓Pc,simprocAttr]
      exact⟨.lit (.bool res),_,⟨rfl,_,rfl⟩,RetOK_all rfl (by simp) (by rw[← hres])⟩
end T
open Go Go.Am Go.Proofs
open Nat (reduceEqDiff reduceAdd reduceLeDiff reduceMul)
open Int (reduceNeg reduceLE reduceToNat)
set_option maxRecDepth 20000
namespace T
set_option maxHeartbeats 16000000 in
theorem move_ok {m:Mdl} (hm:VM m) {gi ai bi:Nat} {D E:List (Nat × Nat)} {S T:List (List Nm)} {os:List Ob} (h:LO eNm (GB m gi ai bi D E) D E S T os) {B:Int} (hB:0≤B∧B≤4611686018427387904) (hg:LG m B (S,T)) (x:Mv) (hx:mvB m x=true) :
    HoldsR Tryz.prog 48 [.ptr gi 0 0,.agg (eMv x)] os fun r ob=>r=.tup []∧LO eNm (GB m gi ai bi D E) D E (mvS m x (S,T)).1 (mvS m x (S,T)).2 ob∧os.length≤ob.length:=by
  obtain ⟨fg,fa,fb⟩:=GBf h
  have eg:=oLo fg
  have ea:=oLo fa
  have eb:=oLo fb
  have hE:=h.rE.len
  have hD:=h.rD.len
  have hs1:S.length=m.cls.length:=hg.s
  have ht1:T.length=m.prs.length:=hg.t
  have hp4:=hm.prs
  have hc4:=hm.cls
  have hx':=hx
  unfold mvB at hx'
  rw[Bool.and_eq_true,decide_eq_true_eq] at hx'
  obtain ⟨⟨x1,x2,x3,x4,x5,x6⟩,hopt⟩:=hx'
  obtain ⟨o1,o2,o3,o4⟩:=optB_iff.1 hopt
  have hpb:=prsL_mem hm.pr _ (getD_mem (l:=m.prs) (i:=x.pair.toNat) (d:=default) (by omega))
  obtain ⟨pb1,pb2,pb3,pb4⟩:=pairB_in hpb
  have hlF:=hm.opt _ (getD_mem (l:=m.cls) (i:=(m.prs.getD x.pair.toNat default).fst.toNat) (d:=default) (by omega))
  have hlS:=hm.opt _ (getD_mem (l:=m.cls) (i:=(m.prs.getD x.pair.toNat default).snd.toNat) (d:=default) (by omega))
  obtain ⟨rE1,rE2⟩:=h.rE.row x.pair.toNat (by omega)
  obtain ⟨rD1,rD2⟩:=h.rD.row (mvC m x).toNat (by omega)
  have qe:=oLo rE1
  have qd:=oLo rD1
  have hSl:(S.getD (mvC m x).toNat default).length=(m.cls.getD (mvC m x).toNat default).length:=hg.sl (mvC m x).toNat (by omega)
  have hTl:(T.getD x.pair.toNat default).length=(m.prs.getD x.pair.toNat default).tab.length:=hg.tl x.pair.toNat (by omega)
  have hv1:=(NB_getD hg.sb (mvC m x).toNat).get hB.1 x.opt.toNat
  dsimp only at hv1
  obtain ⟨rP1,rP2⟩:=h.rD.row (m.prs.getD x.pair.toNat default).snd.toNat (by omega)
  obtain ⟨rF1,rF2⟩:=h.rD.row (m.prs.getD x.pair.toNat default).fst.toNat (by omega)
  have hPl:(S.getD (m.prs.getD x.pair.toNat default).snd.toNat default).length=(m.cls.getD (m.prs.getD x.pair.toNat default).snd.toNat default).length:=hg.sl _ (by omega)
  have hFl:(S.getD (m.prs.getD x.pair.toNat default).fst.toNat default).length=(m.cls.getD (m.prs.getD x.pair.toNat default).fst.toNat default).length:=hg.sl _ (by omega)
  generalize hpp:m.prs.getD x.pair.toNat default=p at *
  generalize hcols:(m.cls.getD p.snd.toNat default).length=cols at *
  generalize hrows:(m.cls.getD p.fst.toNat default).length=rows at *
  refine HoldsR.of_body' (fn:=Tryz.f48) 95 os.length [] Tryz.func48 rfl rfl rfl rfl rfl (by simp) ?_
  refine Xk ?_
  refine rke ?_
  intro K hK
  simp (disch:=omega) only[Ac,↓Pc,simprocAttr,fg,eg,eMv]
  repeat' (first|with_reducible refine And.intro ?_ ?_|omega|with_reducible rfl)
  refine hK _ ?_;clear hK K
  refine hn _ ?_
  skip
  refine W_turn (Turns.frzP 3 os.length (cells:=eMv x) (by rw[oL0];rfl) (by simp only[Kc,simprocAttr]) (by simp[eMv])) ?_
  refine W_turn (σ':=⟨slots [(0,.ptr gi 0 0),(3,.taddr (eMv x))],os++[.gone]⟩) (by rw[oS0];exact Xv @eMv.eq_1) ?_
  refine Xk ?_
  refine unSq ?_;intro Q hn he
  refine join_here ⟨slots [(0,.ptr gi 0 0),(3,.taddr (eMv x)),(4,.ptr (os.length+1) 0 0),(5,.ref (E.getD x.pair.toNat default).1 2 0 (E.getD x.pair.toNat default).2)],os++[.gone,.var (ePr p)]⟩ hn ?_ (fun key=>?_)
  rotate_left
  · refine W_draw [6,8,14] (.take 0 (.take 1 (.take 2 (.take 3 (.take 4 (.take 5 (.take 6 (.take 7 (.take 8 (.take 9 (.take 10 (.take 11 (.take 13 (.take 14 (.both 12 (.take 15 (.both 16 (.take 17 (.take 18 (.take 19 .nil))) 17 (.both 16 (.take 18 (.take 19 .nil)) 18 (.take 16 (.take 19 .nil))))) 17 (.both 12 (.take 15 (.both 16 (.take 18 (.take 19 .nil)) 18 (.take 16 (.take 19 .nil)))) 18 (.take 12 (.take 15 (.take 16 (.take 19 .nil)))))))))))))))))))) rfl (by decide) (by decide +kernel) ?_
    simp (disch:=omega) only[Ac,↓Pc,simprocAttr,planW_three,planW_both,planW_take,planW_nil,stepAt,↓Lq,fg,eg,fb,eb,gC,eRf,Oc2,qe,rE1,eMv,ePr,hpp,List.append_assoc,List.length_append]
    repeat' (first|with_reducible refine And.intro ?_ ?_|omega|with_reducible rfl)
    all_goals
      refine key _ ?_
      exact Xv (X2 @eMv.eq_1 @ePr.eq_1)
  skip
  try skip
  have hL1:LO eNm (GB m gi ai bi D E) D E S T (os++[.gone,.var (ePr p)]):=h.app _
  have fp:(os++[Ob.gone,.var (ePr p)])[os.length+1]?=some (.var (ePr p)):=by rw[oLk];rfl
  have hcl:=class_ok hL1 x ⟨x1,x2⟩ hp4
  have fg1:=eg [.gone,.var (ePr p)]
  have fa1:=ea [.gone,.var (ePr p)]
  have qd1:=qd [.gone,.var (ePr p)]
  have eg1:=oLo fg1
  have ea1:=oLo fa1
  have ed1:=oLo qd1
  have ep1:=oLo fp
  refine Xk ?_
  have hadd:=addM_ok (os:=os++[Ob.gone,.var (ePr p),.var (eMv x)]) (id:=(D.getD (mvC m x).toNat default).1) (r:=x.opt.toNat) (row:=S.getD (mvC m x).toNat default) (qd _) (by omega) x.amt (by unfold In64;omega)
  have sd:=oSo rD1
  generalize hmc:mvC m x=c at *
  refine unSq ?_;intro Q hn he
  refine join_here ⟨slots [(0,.ptr gi 0 0),(3,.taddr (eMv x)),(4,.ptr (os.length+1) 0 0),(5,.ref (E.getD x.pair.toNat default).1 2 0 (E.getD x.pair.toNat default).2)],os.set (D.getD c.toNat default).1 (.arr 2 (rowsOf eNm (addR (S.getD c.toNat default) x.opt.toNat x.amt)))++[.gone,.var (ePr p),.var (eMv x)]⟩ hn ?_ (fun key=>?_)
  rotate_left
  · refine W_drawF [5,10,13] (.take 0 (.take 4 (.take 5 (.four 1 (.four 2 (.four 3 (.three 6 (.take 7 (.take 8 (.take 9 (.take 10 (.take 11 (.take 12 (.take 13 (.take 14 .nil)))))))) 9 (.take 10 (.both 6 (.take 7 (.take 8 (.take 11 (.take 12 (.take 13 (.take 14 .nil)))))) 12 (.take 6 (.take 7 (.take 8 (.take 11 (.take 13 (.take 14 .nil)))))))) 12 (.take 13 (.both 6 (.take 7 (.take 8 (.take 9 (.take 10 (.take 11 (.take 14 .nil)))))) 9 (.take 6 (.take 7 (.take 8 (.take 10 (.take 11 (.take 14 .nil))))))))) 6 (.take 3 (.take 7 (.take 8 (.take 9 (.take 10 (.take 11 (.take 12 (.take 13 (.take 14 .nil))))))))) 9 (.take 10 (.three 3 (.both 6 (.take 7 (.take 8 (.take 11 (.take 12 (.take 13 (.take 14 .nil)))))) 12 (.take 6 (.take 7 (.take 8 (.take 11 (.take 13 (.take 14 .nil))))))) 6 (.take 3 (.take 7 (.take 8 (.take 11 (.take 12 (.take 13 (.take 14 .nil))))))) 12 (.take 13 (.both 3 (.take 6 (.take 7 (.take 8 (.take 11 (.take 14 .nil))))) 6 (.take 3 (.take 7 (.take 8 (.take 11 (.take 14 .nil))))))))) 12 (.take 13 (.three 3 (.both 6 (.take 7 (.take 8 (.take 9 (.take 10 (.take 11 (.take 14 .nil)))))) 9 (.take 6 (.take 7 (.take 8 (.take 10 (.take 11 (.take 14 .nil))))))) 6 (.take 3 (.take 7 (.take 8 (.take 9 (.take 10 (.take 11 (.take 14 .nil))))))) 9 (.take 10 (.both 3 (.take 6 (.take 7 (.take 8 (.take 11 (.take 14 .nil))))) 6 (.take 3 (.take 7 (.take 8 (.take 11 (.take 14 .nil)))))))))) 6 (.take 2 (.take 3 (.take 7 (.take 8 (.take 9 (.take 10 (.take 11 (.take 12 (.take 13 (.take 14 .nil)))))))))) 9 (.take 10 (.three 2 (.three 3 (.both 6 (.take 7 (.take 8 (.take 11 (.take 12 (.take 13 (.take 14 .nil)))))) 12 (.take 6 (.take 7 (.take 8 (.take 11 (.take 13 (.take 14 .nil))))))) 6 (.take 3 (.take 7 (.take 8 (.take 11 (.take 12 (.take 13 (.take 14 .nil))))))) 12 (.take 13 (.both 3 (.take 6 (.take 7 (.take 8 (.take 11 (.take 14 .nil))))) 6 (.take 3 (.take 7 (.take 8 (.take 11 (.take 14 .nil)))))))) 6 (.take 2 (.take 3 (.take 7 (.take 8 (.take 11 (.take 12 (.take 13 (.take 14 .nil)))))))) 12 (.take 13 (.both 2 (.both 3 (.take 6 (.take 7 (.take 8 (.take 11 (.take 14 .nil))))) 6 (.take 3 (.take 7 (.take 8 (.take 11 (.take 14 .nil)))))) 6 (.take 2 (.take 3 (.take 7 (.take 8 (.take 11 (.take 14 .nil)))))))))) 12 (.take 13 (.three 2 (.three 3 (.both 6 (.take 7 (.take 8 (.take 9 (.take 10 (.take 11 (.take 14 .nil)))))) 9 (.take 6 (.take 7 (.take 8 (.take 10 (.take 11 (.take 14 .nil))))))) 6 (.take 3 (.take 7 (.take 8 (.take 9 (.take 10 (.take 11 (.take 14 .nil))))))) 9 (.take 10 (.both 3 (.take 6 (.take 7 (.take 8 (.take 11 (.take 14 .nil))))) 6 (.take 3 (.take 7 (.take 8 (.take 11 (.take 14 .nil)))))))) 6 (.take 2 (.take 3 (.take 7 (.take 8 (.take 9 (.take 10 (.take 11 (.take 14 .nil)))))))) 9 (.take 10 (.both 2 (.both 3 (.take 6 (.take 7 (.take 8 (.take 11 (.take 14 .nil))))) 6 (.take 3 (.take 7 (.take 8 (.take 11 (.take 14 .nil)))))) 6 (.take 2 (.take 3 (.take 7 (.take 8 (.take 11 (.take 14 .nil))))))))))) 6 (.take 1 (.take 2 (.take 3 (.take 7 (.take 8 (.take 9 (.take 10 (.take 11 (.take 12 (.take 13 (.take 14 .nil))))))))))) 9 (.take 10 (.three 1 (.three 2 (.three 3 (.both 6 (.take 7 (.take 8 (.take 11 (.take 12 (.take 13 (.take 14 .nil)))))) 12 (.take 6 (.take 7 (.take 8 (.take 11 (.take 13 (.take 14 .nil))))))) 6 (.take 3 (.take 7 (.take 8 (.take 11 (.take 12 (.take 13 (.take 14 .nil))))))) 12 (.take 13 (.both 3 (.take 6 (.take 7 (.take 8 (.take 11 (.take 14 .nil))))) 6 (.take 3 (.take 7 (.take 8 (.take 11 (.take 14 .nil)))))))) 6 (.take 2 (.take 3 (.take 7 (.take 8 (.take 11 (.take 12 (.take 13 (.take 14 .nil)))))))) 12 (.take 13 (.both 2 (.both 3 (.take 6 (.take 7 (.take 8 (.take 11 (.take 14 .nil))))) 6 (.take 3 (.take 7 (.take 8 (.take 11 (.take 14 .nil)))))) 6 (.take 2 (.take 3 (.take 7 (.take 8 (.take 11 (.take 14 .nil))))))))) 6 (.take 1 (.take 2 (.take 3 (.take 7 (.take 8 (.take 11 (.take 12 (.take 13 (.take 14 .nil))))))))) 12 (.take 13 (.both 1 (.both 2 (.both 3 (.take 6 (.take 7 (.take 8 (.take 11 (.take 14 .nil))))) 6 (.take 3 (.take 7 (.take 8 (.take 11 (.take 14 .nil)))))) 6 (.take 2 (.take 3 (.take 7 (.take 8 (.take 11 (.take 14 .nil))))))) 6 (.take 1 (.take 2 (.take 3 (.take 7 (.take 8 (.take 11 (.take 14 .nil))))))))))) 12 (.take 13 (.three 1 (.three 2 (.three 3 (.both 6 (.take 7 (.take 8 (.take 9 (.take 10 (.take 11 (.take 14 .nil)))))) 9 (.take 6 (.take 7 (.take 8 (.take 10 (.take 11 (.take 14 .nil))))))) 6 (.take 3 (.take 7 (.take 8 (.take 9 (.take 10 (.take 11 (.take 14 .nil))))))) 9 (.take 10 (.both 3 (.take 6 (.take 7 (.take 8 (.take 11 (.take 14 .nil))))) 6 (.take 3 (.take 7 (.take 8 (.take 11 (.take 14 .nil)))))))) 6 (.take 2 (.take 3 (.take 7 (.take 8 (.take 9 (.take 10 (.take 11 (.take 14 .nil)))))))) 9 (.take 10 (.both 2 (.both 3 (.take 6 (.take 7 (.take 8 (.take 11 (.take 14 .nil))))) 6 (.take 3 (.take 7 (.take 8 (.take 11 (.take 14 .nil)))))) 6 (.take 2 (.take 3 (.take 7 (.take 8 (.take 11 (.take 14 .nil))))))))) 6 (.take 1 (.take 2 (.take 3 (.take 7 (.take 8 (.take 9 (.take 10 (.take 11 (.take 14 .nil))))))))) 9 (.take 10 (.both 1 (.both 2 (.both 3 (.take 6 (.take 7 (.take 8 (.take 11 (.take 14 .nil))))) 6 (.take 3 (.take 7 (.take 8 (.take 11 (.take 14 .nil)))))) 6 (.take 2 (.take 3 (.take 7 (.take 8 (.take 11 (.take 14 .nil))))))) 6 (.take 1 (.take 2 (.take 3 (.take 7 (.take 8 (.take 11 (.take 14 .nil))))))))))))))) rfl (by decide) (by decide +kernel) ?_
    simp (disch:=omega) only[Ac,↓Pc,simprocAttr,planF_four,planF_three,planF_both,planF_take,planF_nil,stepAt,↓Lq,eg,ea,gC,eRf,Oc2,qd,eMv]
    repeat' (first|with_reducible refine And.intro ?_ ?_|omega|with_reducible rfl|(refine callK_all hcl (by simp) ?_;simp (disch:=omega) only[Ac,↓Pc,simprocAttr,planF_four,planF_three,planF_both,planF_take,planF_nil,stepAt,↓Lq,eg,ea,gC,eRf,Oc2,qd,eMv,List.append_assoc])|(refine callK_all hadd (by simp) ?_;simp (disch:=omega) only[Ac,↓Pc,simprocAttr,planF_nil,sd,List.append_assoc]))
    all_goals
      refine key _ ?_
      exact Xv @eMv.eq_1
  skip
  try skip
  have hL2:=(h.setD (j:=c.toNat) (by omega) (r:=addR (S.getD c.toNat default) x.opt.toNat x.amt) (addR_len _ _ _)).app [.gone,.var (ePr p),.var (eMv x)]
  have hlen2:os.length≤(os.set (D.getD c.toNat default).1 (.arr 2 (rowsOf eNm (addR (S.getD c.toNat default) x.opt.toNat x.amt)))++[Ob.gone,Ob.var (ePr p),Ob.var (eMv x)]).length:=by simp
  have fp2:(os.set (D.getD c.toNat default).1 (.arr 2 (rowsOf eNm (addR (S.getD c.toNat default) x.opt.toNat x.amt)))++[Ob.gone,Ob.var (ePr p),Ob.var (eMv x)])[os.length+1]?=some (.var (ePr p)):=oLs _ _ _ _ _
  have hmS:mvS m x (S,T)=(S.set c.toNat (addR (S.getD c.toNat default) x.opt.toNat x.amt),T.set x.pair.toNat (subK (mvF m x).1 x.amt (mvF m x).2 (T.getD x.pair.toNat default))):=by unfold mvS;rw[hmc]
  rw[hmS]
  dsimp only
  have htlen:x.pair.toNat<T.length:=by omega
  have hmF:mvF m x=if x.side=0 then (fun k:Nat=>(x.opt * cols+k).toNat,cols) else (fun k:Nat=>((k:Int) * cols+x.opt).toNat,rows):=by unfold mvF;rw[hpp,hcols,hrows]
  have hcside:c=if x.side=0 then p.fst else p.snd:=by rw[← hmc];unfold mvC;rw[hpp]
  have hnbT:=NB_getD hg.tb x.pair.toNat
  dsimp only at hnbT
  have htl:=pairB_tab hpb hm
  generalize hS':S.set c.toNat (addR (S.getD c.toNat default) x.opt.toNat x.amt)=S' at *
  generalize os.set (D.getD c.toNat default).1 (.arr 2 (rowsOf eNm (addR (S.getD c.toNat default) x.opt.toNat x.amt)))++[Ob.gone,.var (ePr p),.var (eMv x)]=os1 at *
  obtain ⟨gg,ga,gb⟩:=GBf hL2
  obtain ⟨u1,u2⟩:=hL2.rD.row p.snd.toNat (by omega)
  obtain ⟨v1,v2⟩:=hL2.rD.row p.fst.toNat (by omega)
  clear fg eg fa ea fb eb rE1 rD1 qe qd rP1 rF1 hL1 fp hcl fg1 fa1 qd1 eg1 ea1 ed1 ep1 hadd sd h
  have hwid:(D.getD p.snd.toNat default).2=cols:=by rw[← rP2];exact hPl
  have hhgt:(D.getD p.fst.toNat default).2=rows:=by rw[← rF2];exact hFl
  by_cases hs:x.side=0
  · rw[if_pos hs] at hcside hmF
    rw[hcside] at o4
    rw[hmF]
    dsimp only
    repeat' (first|(refine Xr (X5 @gg @ga @gC.eq_1 @eRf.eq_1 (X5 @fp2 @ePr.eq_1 @u1 @v1 (X3 @hwid @hhgt @eMv.eq_1))) ?_;intro K hK)|refine Xo (X5 @gg @ga @gC.eq_1 @eRf.eq_1 (X5 @fp2 @ePr.eq_1 @u1 @v1 (X3 @hwid @hhgt @eMv.eq_1))) ?_|(refine hK _ ?_;clear hK K)|(refine Xg (X5 @gg @ga @gC.eq_1 @eRf.eq_1 (X5 @fp2 @ePr.eq_1 @u1 @v1 (X3 @hwid @hhgt @eMv.eq_1))) ?_ ?_<;>try intro hb)|(refine Xi ?_ ?_<;>try intro ht)|refine Xz ?_|refine Xh ?_|refine Xe ?_|refine Xd ?_ ?_|omega|with_reducible rfl|exact trivial)
    all_goals try (exfalso;omega)
    refine W_loopS (fun z:Nat × List Ob=>(⟨slots [(3,.taddr (eMv x)),(5,.ref (E.getD x.pair.toNat default).1 2 0 (E.getD x.pair.toNat default).2),(6,.lit (.int .i64 cols)),(53,.lit (.int .i64 cols)),(54,.lit (.int .i64 z.1))],z.2⟩:St))
      (fun z=>z.1≤cols∧LO eNm (GB m gi ai bi D E) D E S' (T.set x.pair.toNat (subK (fun k:Nat=>(x.opt * cols+k).toNat) x.amt z.1 (T.getD x.pair.toNat default))) z.2∧os.length≤z.2.length)
      (fun z=>cols - z.1) (0,os1) ⟨Nat.zero_le _,by rw[subK,set_self];exact hL2,hlen2⟩ (Xv @eMv.eq_1) ?_
    rintro ⟨k,ok⟩ ⟨hk,hLk,hlk⟩ Ql hnl hel
    dsimp only at hk hLk hlk ⊢
    obtain ⟨rK1,rK2⟩:=hLk.rE.row x.pair.toNat (by omega)
    rw[getD_set _ _ _ htlen] at rK1 rK2
    have hsl:=subK_len (fun k:Nat=>(x.opt * cols+k).toNat) x.amt k (T.getD x.pair.toNat default)
    have hbd:=(hnbT.sub (by omega) (fun k:Nat=>(x.opt * cols+k).toNat) (a:=x.amt) (by omega) k).get (by omega) (x.opt * cols+k:Int).toNat
    by_cases hk':k<cols
    · have hL3:=hLk.setE (j:=x.pair.toNat) (by omega) (r:=addR (subK (fun k:Nat=>(x.opt * cols+k).toNat) x.amt k (T.getD x.pair.toNat default)) (x.opt * cols+k:Int).toNat (-x.amt)) (by rw[getD_set _ _ _ htlen];exact addR_len _ _ _)
      rw[List.set_set] at hL3
      obtain ⟨ix1,ix2,ix3,ix4⟩:=idx_in (a:=x.opt) (k:=(k:Int)) (c:=(cols:Int)) (n:=(rows:Int)) ⟨o3,by omega⟩ (by omega) (by omega) (by omega)
      generalize hixx:(x.opt * cols+k:Int)=ix at *
      generalize htk:subK (fun k:Nat=>(x.opt * cols+k).toNat) x.amt k (T.getD x.pair.toNat default)=tk at *
      have hadd:=addM_ok rK1 (r:=ix.toNat) (by omega) (-x.amt) (by unfold In64;omega)
      repeat' (first|(refine Xr (X3 @rK1 @eMv.eq_1 @hixx) ?_;intro K hK)|refine Xo (X3 @rK1 @eMv.eq_1 @hixx) ?_|(refine hK _ ?_;clear hK K)|(refine Xg (X3 @rK1 @eMv.eq_1 @hixx) ?_ ?_<;>try intro hb)|(refine Xi ?_ ?_<;>try intro ht)|refine Xz ?_|refine Xe ?_|refine Xd ?_ ?_|omega|with_reducible rfl|exact trivial)
      all_goals try (exfalso;omega)
      refine callK_all hadd (by simp) ?_
      repeat' (first|(refine Xr X0 ?_;intro K hK)|refine Xo X0 ?_|(refine hK _ ?_;clear hK K)|(refine Xg X0 ?_ ?_<;>try intro hb)|(refine Xi ?_ ?_<;>try intro ht)|refine Xz ?_|refine Xe ?_|refine Xd ?_ ?_|omega|with_reducible rfl|exact trivial)
      refine hnl _ (k+1,_) ⟨by dsimp only;omega,by rw[subK,htk,hixx];exact hL3,by dsimp only;rw[List.length_set];exact hlk⟩ (by dsimp only;omega) ?_
      exact Xv @eMv.eq_1
    · have hkc:k=cols:=by omega
      rw[hkc] at hLk
      repeat' (first|(refine Xr X0 ?_;intro K hK)|refine Xo X0 ?_|(refine hK _ ?_;clear hK K)|(refine Xg X0 ?_ ?_<;>try intro hb)|(refine Xi ?_ ?_<;>try intro ht)|refine Xz ?_|refine Xe ?_|refine Xd ?_ ?_|omega|with_reducible rfl|exact trivial)
      refine hel _ _ rfl ?_
      clear hnl hel Ql
      repeat (first|refine Xu ?_)
      repeat' (first|(refine Xr X0 ?_;intro K hK)|refine Xo X0 ?_|(refine hK _ ?_;clear hK K)|(refine Xg X0 ?_ ?_<;>try intro hb)|(refine Xi ?_ ?_<;>try intro ht)|refine Xz ?_|refine Xh ?_|refine Xe ?_|refine Xd ?_ ?_|omega|with_reducible rfl|exact trivial)
      unfold retR
      simp only[resW,retV]
      exact⟨.tup [],_,⟨rfl,hLk,hlk⟩,RetOK_all rfl hlk rfl⟩
  · rw[if_neg hs] at hcside hmF
    rw[hcside] at o4
    rw[hmF]
    dsimp only
    repeat' (first|(refine Xr (X5 @gg @ga @gC.eq_1 @eRf.eq_1 (X5 @fp2 @ePr.eq_1 @u1 @v1 (X3 @hwid @hhgt @eMv.eq_1))) ?_;intro K hK)|refine Xo (X5 @gg @ga @gC.eq_1 @eRf.eq_1 (X5 @fp2 @ePr.eq_1 @u1 @v1 (X3 @hwid @hhgt @eMv.eq_1))) ?_|(refine hK _ ?_;clear hK K)|(refine Xg (X5 @gg @ga @gC.eq_1 @eRf.eq_1 (X5 @fp2 @ePr.eq_1 @u1 @v1 (X3 @hwid @hhgt @eMv.eq_1))) ?_ ?_<;>try intro hb)|(refine Xi ?_ ?_<;>try intro ht)|refine Xz ?_|refine Xh ?_|refine Xe ?_|refine Xd ?_ ?_|omega|with_reducible rfl|exact trivial)
    all_goals try (exfalso;omega)
    refine W_loopS (fun z:Nat × List Ob=>(⟨slots [(3,.taddr (eMv x)),(5,.ref (E.getD x.pair.toNat default).1 2 0 (E.getD x.pair.toNat default).2),(6,.lit (.int .i64 cols)),(78,.lit (.int .i64 rows)),(79,.lit (.int .i64 z.1))],z.2⟩:St))
      (fun z=>z.1≤rows∧LO eNm (GB m gi ai bi D E) D E S' (T.set x.pair.toNat (subK (fun k:Nat=>((k:Int) * cols+x.opt).toNat) x.amt z.1 (T.getD x.pair.toNat default))) z.2∧os.length≤z.2.length)
      (fun z=>rows - z.1) (0,os1) ⟨Nat.zero_le _,by rw[subK,set_self];exact hL2,hlen2⟩ (Xv @eMv.eq_1) ?_
    rintro ⟨k,ok⟩ ⟨hk,hLk,hlk⟩ Ql hnl hel
    dsimp only at hk hLk hlk ⊢
    obtain ⟨rK1,rK2⟩:=hLk.rE.row x.pair.toNat (by omega)
    rw[getD_set _ _ _ htlen] at rK1 rK2
    have hsl:=subK_len (fun k:Nat=>((k:Int) * cols+x.opt).toNat) x.amt k (T.getD x.pair.toNat default)
    have hbd:=(hnbT.sub (by omega) (fun k:Nat=>((k:Int) * cols+x.opt).toNat) (a:=x.amt) (by omega) k).get (by omega) ((k:Int) * cols+x.opt).toNat
    by_cases hk':k<rows
    · have hL3:=hLk.setE (j:=x.pair.toNat) (by omega) (r:=addR (subK (fun k:Nat=>((k:Int) * cols+x.opt).toNat) x.amt k (T.getD x.pair.toNat default)) ((k:Int) * cols+x.opt).toNat (-x.amt)) (by rw[getD_set _ _ _ htlen];exact addR_len _ _ _)
      rw[List.set_set] at hL3
      obtain ⟨ix1,ix2,ix3,ix4⟩:=idx_in (a:=(k:Int)) (k:=x.opt) (c:=(cols:Int)) (n:=(rows:Int)) (by omega) ⟨o3,by omega⟩ (by omega) (by omega)
      generalize hixx:((k:Int) * cols+x.opt)=ix at *
      generalize htk:subK (fun k:Nat=>((k:Int) * cols+x.opt).toNat) x.amt k (T.getD x.pair.toNat default)=tk at *
      have hadd:=addM_ok rK1 (r:=ix.toNat) (by omega) (-x.amt) (by unfold In64;omega)
      repeat' (first|(refine Xr (X3 @rK1 @eMv.eq_1 @hixx) ?_;intro K hK)|refine Xo (X3 @rK1 @eMv.eq_1 @hixx) ?_|(refine hK _ ?_;clear hK K)|(refine Xg (X3 @rK1 @eMv.eq_1 @hixx) ?_ ?_<;>try intro hb)|(refine Xi ?_ ?_<;>try intro ht)|refine Xz ?_|refine Xe ?_|refine Xd ?_ ?_|omega|with_reducible rfl|exact trivial)
      all_goals try (exfalso;omega)
      refine callK_all hadd (by simp) ?_
      repeat' (first|(refine Xr X0 ?_;intro K hK)|refine Xo X0 ?_|(refine hK _ ?_;clear hK K)|(refine Xg X0 ?_ ?_<;>try intro hb)|(refine Xi ?_ ?_<;>try intro ht)|refine Xz ?_|refine Xe ?_|refine Xd ?_ ?_|omega|with_reducible rfl|exact trivial)
      refine hnl _ (k+1,_) ⟨by dsimp only;omega,by rw[subK,htk,hixx];exact hL3,by dsimp only;rw[List.length_set];exact hlk⟩ (by dsimp only;omega) ?_
      exact Xv @eMv.eq_1
    · have hkc:k=rows:=by omega
      rw[hkc] at hLk
      repeat' (first|(refine Xr X0 ?_;intro K hK)|refine Xo X0 ?_|(refine hK _ ?_;clear hK K)|(refine Xg X0 ?_ ?_<;>try intro hb)|(refine Xi ?_ ?_<;>try intro ht)|refine Xz ?_|refine Xe ?_|refine Xd ?_ ?_|omega|with_reducible rfl|exact trivial)
      refine hel _ _ rfl ?_
      clear hnl hel Ql
      repeat (first|refine Xu ?_)
      repeat' (first|(refine Xr X0 ?_;intro K hK)|refine Xo X0 ?_|(refine hK _ ?_;clear hK K)|(refine Xg X0 ?_ ?_<;>try intro hb)|(refine Xi ?_ ?_<;>try intro ht)|refine Xz ?_|refine Xh ?_|refine Xe ?_|refine Xd ?_ ?_|omega|with_reducible rfl|exact trivial)
      unfold retR
      simp only[resW,retV]
      exact⟨.tup [],_,⟨rfl,hLk,hlk⟩,RetOK_all rfl hlk rfl⟩
end T
open Go Go.Am Go.Proofs
open Nat (reduceEqDiff reduceAdd reduceLeDiff reduceMul)
open Int (reduceNeg reduceLE reduceToNat)
set_option maxRecDepth 20000
namespace T
theorem eNm_app (xs:List Nm) (n:Int):rowsOf eNm xs++[[AV.lit (.int .i64 n),.lit (.bool (decide (1099511627776≤n)))]]=rowsOf eNm (xs++[ofN n]):=by simp[rowsOf,eNm,ofN]
set_option maxHeartbeats 16000000 in
theorem open_ok {m:Mdl} (hm:VM m) (os:List Ob):HoldsR Tryz.prog 46 [.agg (eMdl m)] os fun r ob=>∃ gi ai bi D E,r=.ptr gi 0 0∧LO eNm (GB m gi ai bi D E) D E (S0 m) (T0 m) ob∧Keep os ob:=by
  have hc4:=hm.cls
  have hp4:=hm.prs
  refine HoldsR.of_body' (fn:=Tryz.f46) 94 os.length [.tmp 2] Tryz.func46 rfl rfl rfl rfl rfl (by simp) ?_
  repeat' (first|(refine Xr (X3 @Oc2 @List.append_assoc.{0} @List.length_append.{0}) ?_;intro K hK)|refine Xo (X3 @Oc2 @List.append_assoc.{0} @List.length_append.{0}) ?_|(refine hK _ ?_;clear hK K)|(refine Xg (X3 @Oc2 @List.append_assoc.{0} @List.length_append.{0}) ?_ ?_<;>try intro hb)|(refine Xi ?_ ?_<;>try intro ht)|refine Xz ?_|refine Xh ?_|refine Xe ?_|refine Xd ?_ ?_|omega|with_reducible rfl|exact trivial)
  have kz1:(os++[Ob.var (eMdl m),Ob.var (eMdl m++[.lit (.slice none 0 0),.lit (.slice none 0 0)])])[os.length+1]?=some (.var (eMdl m++[.lit (.slice none 0 0),.lit (.slice none 0 0)])):=by rw[oLk];rfl
  refine W_turn (Turns.nilC (os.length+1) 4 1 kz1 rfl (by decide)) ?_
  simp only[List.append_assoc,List.cons_append,List.nil_append,oSk,List.set_cons_succ,List.set_cons_zero,List.length_append,List.length_cons,List.length_nil,eMdl,Nat.zero_add,Nat.reduceAdd]
  clear kz1
  refine W_turn (Turns.nilC (os.length+1) 5 1 (by rw[oLk];rfl) rfl (by decide)) ?_
  simp only[List.append_assoc,List.cons_append,List.nil_append,oSk,List.set_cons_succ,List.set_cons_zero,List.length_append,List.length_cons,List.length_nil,Nat.zero_add,Nat.reduceAdd]
  have hB1:LO eNm [(os.length+1,.var (gC m (os.length+2) (os.length+3) [] [])),(os.length+2,.arr 1 (rowsOf eRf [])),(os.length,.var (eMdl m)),(os.length+3,.arr 1 (rowsOf eRf []))] [] [] ((S0 m).take 0) [] (os++[.var (eMdl m),.var (gC m (os.length+2) (os.length+3) [] []),.arr 1 [],.arr 1 []]):=by
    refine⟨fun b hb=>?_,by rw[List.take_zero];exact RI.nil,RI.nil,by simp⟩
    simp only[List.mem_cons,List.not_mem_nil,or_false] at hb
    rcases hb with rfl | rfl | rfl | rfl
    · exact⟨by rw[oLk];rfl,by simp⟩
    · exact⟨by rw[oLk];rfl,by simp⟩
    · exact⟨by rw[oL0],by simp⟩
    · exact⟨by rw[oLk];rfl,by simp⟩
  refine W_loopS (fun z:Nat × List Ob × Nat × List (Nat × Nat)=>(⟨slots [(1,.ptr os.length 0 0),(3,.ptr (os.length+1) 0 0),(21,.tree 1 (rowsOf eCls m.cls)),(22,.lit (.int .i64 m.cls.length)),(23,.lit (.int .i64 z.1))],z.2.1⟩:St))
    (fun z=>z.1≤m.cls.length∧z.2.2.2.length=z.1∧LO eNm [(os.length+1,.var (gC m z.2.2.1 (os.length+3) z.2.2.2 [])),(z.2.2.1,.arr 1 (rowsOf eRf z.2.2.2)),(os.length,.var (eMdl m)),(os.length+3,.arr 1 (rowsOf eRf []))] z.2.2.2 [] ((S0 m).take z.1) [] z.2.1∧Keep os z.2.1∧os.length+1<z.2.2.1∧z.2.2.1≠os.length+3)
    (fun z=>m.cls.length - z.1) (0,os++[.var (eMdl m),.var (gC m (os.length+2) (os.length+3) [] []),.arr 1 [],.arr 1 []],os.length+2,[]) ⟨Nat.zero_le _,rfl,hB1,(Keep.refl os).app _,by dsimp only;omega,by dsimp only;omega⟩ (Xv X0) ?_
  clear hB1
  rintro ⟨i,ob,ai,D⟩ ⟨hi,hD,hL,hkp,hai,hai2⟩ Ql hnl hel
  dsimp only at hi hD hL hkp hai hai2 ⊢
  by_cases hi':i<m.cls.length
  · have hcm:=getD_mem (d:=default) hi'
    have hl24:=hm.opt _ hcm
    have hts:(S0 m).take (i+1)=(S0 m).take i++[firstV (ownV (m.cls.getD i default))]:=by
      rw[take_snoc (by unfold S0;rw[List.length_map];exact hi')]
      unfold S0;rw[map_getD _ _ _ hi']
    have hch:=fun o ho=>hm.chs _ hcm o ho
    have hchl:=fun o ho=>chs_len hm hcm (o:=o) ho
    generalize hcc:m.cls.getD i default=c at *
    repeat' (first|(refine Xr (X2 @hcc @eCls.eq_1) ?_;intro K hK)|refine Xo (X2 @hcc @eCls.eq_1) ?_|(refine hK _ ?_;clear hK K)|(refine Xg (X2 @hcc @eCls.eq_1) ?_ ?_<;>try intro hb)|(refine Xi ?_ ?_<;>try intro ht)|refine Xz ?_|refine Xe ?_|refine Xd ?_ ?_|omega|with_reducible rfl|exact trivial)
    have hvl:(firstV (ownV c)).length=c.length:=by unfold firstV ownV;simp
    refine W_loopS (fun z:Nat × List Ob × Nat × List Nm=>(⟨slots [(1,.ptr os.length 0 0),(3,.ptr (os.length+1) 0 0),(21,.tree 1 (rowsOf eCls m.cls)),(22,.lit (.int .i64 m.cls.length)),(23,.lit (.int .i64 i)),(6,.ref z.2.2.1 2 0 z.2.2.2.length),(27,.tree 6 (rowsOf eOpt c)),(28,.lit (.int .i64 c.length)),(29,.lit (.int .i64 z.1))],z.2.1⟩:St))
      (fun z=>z.1≤c.length∧LO eNm [(os.length+1,.var (gC m ai (os.length+3) D [])),(ai,.arr 1 (rowsOf eRf D)),(os.length,.var (eMdl m)),(os.length+3,.arr 1 (rowsOf eRf []))] D [] ((S0 m).take i) [] z.2.1∧Keep os z.2.1∧z.2.1[z.2.2.1]?=some (.arr 2 (rowsOf eNm z.2.2.2))∧z.2.2.1 ∉ List.map (fun q:Nat × Nat=>q.1) (D++[])∧os.length≤z.2.2.1∧z.2.2.2=(firstV (ownV c)).take z.1)
      (fun z=>c.length - z.1) (0,ob++[.arr 2 []],ob.length,[]) ⟨Nat.zero_le _,hL.app _,hkp.app _,oL0 _ _ _,hL.fresh (Nat.le_refl _),hkp.len,rfl⟩ ?_ ?_
    · refine Turns.trans (Turns.nil 6 2 (by simp only[Kc,simprocAttr]) (by decide)) ?_
      exact Xv X0
    clear hL hkp
    rintro ⟨k,ok,oi,xs⟩ ⟨hk,hL,hkp,foi,hfr,hoi,hxs⟩ Ql2 hnl2 hel2
    dsimp only at hk hL hkp foi hfr hoi hxs ⊢
    by_cases hk':k<c.length
    · have hom:=getD_mem (l:=c) (d:=default) hk'
      have hcin:=chs_in (hch _ hom)
      have hcle:=hchl _ hom
      have hox:(firstV (ownV c)).getD k default=ofN (ownS (c.getD k default)):=by
        unfold firstV ownV;rw[List.map_map,map_getD _ _ _ hk'];rfl
      have htx:=take_snoc (l:=firstV (ownV c)) (k:=k) (by omega)
      rw[hox,← hxs] at htx
      have hxl:xs.length=k:=by rw[hxs,List.length_take];omega
      generalize hoo:c.getD k default=o at *
      repeat' (first|(refine Xr (X3 @hoo @Oc2 @eOpt.eq_1) ?_;intro K hK)|refine Xo (X3 @hoo @Oc2 @eOpt.eq_1) ?_|(refine hK _ ?_;clear hK K)|(refine Xg (X3 @hoo @Oc2 @eOpt.eq_1) ?_ ?_<;>try intro hb)|(refine Xi ?_ ?_<;>try intro ht)|refine Xz ?_|refine Xe ?_|refine Xd ?_ ?_|omega|with_reducible rfl|exact trivial)
      refine W_loopS (fun z:Nat × List Ob=>(⟨slots [(1,.ptr os.length 0 0),(3,.ptr (os.length+1) 0 0),(21,.tree 1 (rowsOf eCls m.cls)),(22,.lit (.int .i64 m.cls.length)),(23,.lit (.int .i64 i)),(6,.ref oi 2 0 xs.length),(27,.tree 6 (rowsOf eOpt c)),(28,.lit (.int .i64 c.length)),(29,.lit (.int .i64 k)),(9,.lit (.int .i64 (((o.ch.take z.1).map (·.2)).foldl addC 0))),(34,.tree 2 (rowsOf eCh o.ch)),(35,.lit (.int .i64 o.ch.length)),(36,.lit (.int .i64 z.1))],z.2⟩:St))
        (fun z=>z.1≤o.ch.length∧LO eNm [(os.length+1,.var (gC m ai (os.length+3) D [])),(ai,.arr 1 (rowsOf eRf D)),(os.length,.var (eMdl m)),(os.length+3,.arr 1 (rowsOf eRf []))] D [] ((S0 m).take i) [] z.2∧Keep os z.2∧z.2[oi]?=some (.arr 2 (rowsOf eNm xs)))
        (fun z=>o.ch.length - z.1) (0,ok++[.var (eOpt o)]) ⟨Nat.zero_le _,hL.app _,hkp.app _,oLo foi _⟩ (Xv (X4 @List.take_zero.{0} @List.map_nil.{0,0} @List.foldl_nil.{0,0} @eOpt.eq_1)) ?_
      clear hL hkp foi
      rintro ⟨q,oq⟩ ⟨hq,hL,hkp,foi⟩ Ql3 hnl3 hel3
      dsimp only at hq hL hkp foi ⊢
      have hs:=foldC_in ((o.ch.take q).map (·.2)) 0 (fun x hx=>by
        obtain ⟨c,hc',rfl⟩:=List.mem_map.1 hx;exact hcin c (List.mem_of_mem_take hc')) (by unfold In41;decide)
      by_cases hq':q<o.ch.length
      · have hcc2:=hcin _ (getD_mem (d:=default) hq')
        have hst:=getD_foldl o.ch q hq'
        generalize ((o.ch.take q).map (·.2)).foldl addC 0=s at *
        have hadd:=sum_ok s (o.ch.getD q default).2 hs hcc2
        generalize hyy:o.ch.getD q default=y at *
        repeat' (first|(refine Xq (X3 @hyy @Oc2 @eCh.eq_1) ?_;intro K hK)|refine Xo (X3 @hyy @Oc2 @eCh.eq_1) ?_|refine Xc (hadd) ?_|(refine hK _ ?_;clear hK K)|(refine Xg (X3 @hyy @Oc2 @eCh.eq_1) ?_ ?_<;>try intro hb)|(refine Xi ?_ ?_<;>try intro ht)|refine Xz ?_|refine Xe ?_|refine Xd ?_ ?_|omega|with_reducible rfl|exact trivial)
        all_goals try (exfalso;omega)
        refine hnl3 _ (q+1,oq++[.var (eCh y)]) ⟨by dsimp only;omega,hL.app _,hkp.app _,oLo foi _⟩ (by dsimp only;omega) ?_
        simp only[hst]
        exact Xv @eCh.eq_1
      · have hfin:((o.ch.take q).map (·.2)).foldl addC 0=ownS o:=by rw[List.take_of_length_le (by omega)];rfl
        rw[hfin] at hs
        rw[← hfin] at htx
        generalize ((o.ch.take q).map (·.2)).foldl addC 0=s at *
        have hof:=of_ok s
        have eoi:=oLo foi
        have soi:=oSo foi
        have hol:=(List.getElem?_eq_some_iff.1 foi).1
        repeat' (first|(refine Xr X0 ?_;intro K hK)|refine Xo X0 ?_|(refine hK _ ?_;clear hK K)|(refine Xg X0 ?_ ?_<;>try intro hb)|(refine Xi ?_ ?_<;>try intro ht)|refine Xz ?_|refine Xe ?_|refine Xd ?_ ?_|omega|with_reducible rfl|exact trivial)
        refine hel3 _ _ rfl ?_
        clear hnl3 hel3 Ql3
        repeat (first|refine Xu ?_)
        repeat' (first|(refine Xq (X5 @foi @eoi @soi @eNm.eq_1 (X5 @ofN.eq_1 @Oc2 @List.append_assoc.{0} @List.length_append.{0} (X2 @List.length_set.{0} @eNm_app))) ?_;intro K hK)|refine Xo (X5 @foi @eoi @soi @eNm.eq_1 (X5 @ofN.eq_1 @Oc2 @List.append_assoc.{0} @List.length_append.{0} (X2 @List.length_set.{0} @eNm_app))) ?_|refine Xc (hof) ?_|(refine hK _ ?_;clear hK K)|(refine Xg (X5 @foi @eoi @soi @eNm.eq_1 (X5 @ofN.eq_1 @Oc2 @List.append_assoc.{0} @List.length_append.{0} (X2 @List.length_set.{0} @eNm_app))) ?_ ?_<;>try intro hb)|(refine Xi ?_ ?_<;>try intro ht)|refine Xz ?_|refine Xe ?_|refine Xd ?_ ?_|omega|with_reducible rfl|exact trivial)
        all_goals try (exfalso;omega)
        have hL2:=(hL.killR (y:=.gone) hfr foi).app [.arr 2 [eNm (ofN s)],.arr 2 (rowsOf eNm (xs++[ofN s]))]
        refine hnl2 _ (k+1,oq.set oi .gone++[.arr 2 [eNm (ofN s)],.arr 2 (rowsOf eNm (xs++[ofN s]))],oq.length+1,xs++[ofN s]) ⟨by dsimp only;omega,hL2,(hkp.set hoi).app _,oLs _ _ _ _ _,(hL.killR (y:=.gone) hfr foi).fresh (by dsimp only;rw[List.length_set];omega),by dsimp only;have:=hkp.len;omega,htx.symm⟩ (by dsimp only;omega) ?_
        exact Xv (X2 @eNm.eq_1 @ofN.eq_1)
    · rw[List.take_of_length_le (by omega)] at hxs
      have hg0:=(hL.base (os.length+1,.var (gC m ai (os.length+3) D [])) (by simp)).1
      have ha0:=(hL.base (ai,.arr 1 (rowsOf eRf D)) (by simp)).1
      dsimp only at hg0 ha0
      have eg0:=oLo hg0
      have ea0:=oLo ha0
      have sa0:=oSo ha0
      have hg1:(ok.set ai .gone)[os.length+1]?=some (.var (gC m ai (os.length+3) D [])):=by rw[List.getElem?_set_ne (by omega)];exact hg0
      have hgs:=oLo hg1
      have hgw:=oSo hg1
      have hst:=hL.step foi hfr (by simp only[List.mem_cons,List.not_mem_nil,or_false,forall_eq_or_imp,forall_eq];omega) [.tree 1 (rowsOf eCls m.cls),.tree 4 (rowsOf ePr m.prs),.tree 4 (rowsOf eCt m.cts),.lit (.int .i64 m.rules),.ref (ok.length+1) 1 0 (D.length+1),.ref (os.length+3) 1 0 0] (rowsOf eRf (D++[(oi,xs.length)])) (.arr 1 [[.ref oi 2 0 xs.length]])
      have egc:gC m (ok.length+1) (os.length+3) (D++[(oi,xs.length)]) []=[.tree 1 (rowsOf eCls m.cls),.tree 4 (rowsOf ePr m.prs),.tree 4 (rowsOf eCt m.cts),.lit (.int .i64 m.rules),.ref (ok.length+1) 1 0 (D.length+1),.ref (os.length+3) 1 0 0]:=by simp[gC]
      have hb3:=(List.getElem?_eq_some_iff.1 (hL.base (os.length+3,.arr 1 (rowsOf eRf [])) (by simp)).1).1
      have hal:=(List.getElem?_eq_some_iff.1 ha0).1
      dsimp only at hb3
      repeat' (first|(refine Xr X0 ?_;intro K hK)|refine Xo X0 ?_|(refine hK _ ?_;clear hK K)|(refine Xg X0 ?_ ?_<;>try intro hb)|(refine Xi ?_ ?_<;>try intro ht)|refine Xz ?_|refine Xe ?_|refine Xd ?_ ?_|omega|with_reducible rfl|exact trivial)
      refine hel2 _ _ rfl ?_
      clear hnl2 hel2 Ql2
      repeat (first|refine Xu ?_)
      repeat' (first|(refine Xr (X5 @hg0 @ha0 @eg0 @ea0 (X5 @sa0 @hgs @hgw @gC.eq_1 (X5 @eRf_app @Oc2 @List.append_assoc.{0} @List.length_append.{0} @List.length_set.{0}))) ?_;intro K hK)|refine Xo (X5 @hg0 @ha0 @eg0 @ea0 (X5 @sa0 @hgs @hgw @gC.eq_1 (X5 @eRf_app @Oc2 @List.append_assoc.{0} @List.length_append.{0} @List.length_set.{0}))) ?_|(refine hK _ ?_;clear hK K)|(refine Xg (X5 @hg0 @ha0 @eg0 @ea0 (X5 @sa0 @hgs @hgw @gC.eq_1 (X5 @eRf_app @Oc2 @List.append_assoc.{0} @List.length_append.{0} @List.length_set.{0}))) ?_ ?_<;>try intro hb)|(refine Xi ?_ ?_<;>try intro ht)|refine Xz ?_|refine Xe ?_|refine Xd ?_ ?_|omega|with_reducible rfl|exact trivial)
      all_goals try (exfalso;omega)
      refine hnl _ (i+1,_,ok.length+1,D++[(oi,xs.length)]) ⟨by dsimp only;omega,by simp;omega,by dsimp only;rw[hts,← hxs,egc];exact hst,((hkp.set (by omega)).set (by omega)).app _,by dsimp only;omega,by dsimp only;omega⟩ (by dsimp only;omega) ?_
      exact Xv X0
  rw[List.take_of_length_le (by unfold S0;rw[List.length_map];omega)] at hL
  have hm0:=(hL.base (os.length,.var (eMdl m)) (by simp)).1
  dsimp only at hm0
  repeat' (first|(refine Xr @hm0 ?_;intro K hK)|refine Xo @hm0 ?_|(refine hK _ ?_;clear hK K)|(refine Xg @hm0 ?_ ?_<;>try intro hb)|(refine Xi ?_ ?_<;>try intro ht)|refine Xz ?_|refine Xe ?_|refine Xd ?_ ?_|omega|with_reducible rfl|exact trivial)
  refine hel _ _ rfl ?_;clear hnl hel Ql
  repeat (first|refine Xu ?_)
  repeat' (first|(refine Xr @hm0 ?_;intro K hK)|refine Xo @hm0 ?_|(refine hK _ ?_;clear hK K)|(refine Xg @hm0 ?_ ?_<;>try intro hb)|(refine Xi ?_ ?_<;>try intro ht)|refine Xz ?_|refine Xe ?_|refine Xd ?_ ?_|omega|with_reducible rfl|exact trivial)
  have hL0:LO eNm [(os.length+1,.var (gC m ai (os.length+3) D [])),(os.length+3,.arr 1 (rowsOf eRf [])),(os.length,.var (eMdl m)),(ai,.arr 1 (rowsOf eRf D))] [] D ((T0 m).take 0) (S0 m) ob:=hL.swap.sub (by simp only[List.mem_cons,List.not_mem_nil,or_false];intro b hb;rcases hb with rfl | rfl | rfl | rfl<;>simp)
  refine W_loopS (fun z:Nat × List Ob × Nat × List (Nat × Nat)=>(⟨slots [(1,.ptr os.length 0 0),(3,.ptr (os.length+1) 0 0),(63,.tree 4 (rowsOf ePr m.prs)),(64,.lit (.int .i64 m.prs.length)),(65,.lit (.int .i64 z.1))],z.2.1⟩:St))
    (fun z=>z.1≤m.prs.length∧z.2.2.2.length=z.1∧LO eNm [(os.length+1,.var (gC m ai z.2.2.1 D z.2.2.2)),(z.2.2.1,.arr 1 (rowsOf eRf z.2.2.2)),(os.length,.var (eMdl m)),(ai,.arr 1 (rowsOf eRf D))] z.2.2.2 D ((T0 m).take z.1) (S0 m) z.2.1∧Keep os z.2.1∧os.length+1<z.2.2.1∧ai≠z.2.2.1)
    (fun z=>m.prs.length - z.1) (0,ob,os.length+3,[]) ⟨Nat.zero_le _,rfl,hL0,hkp,by dsimp only;omega,hai2⟩ (Xv X0) ?_
  clear hL hL0 hkp hm0 hi hi' hai2 ob
  rintro ⟨i,ob,bi,E⟩ ⟨hi,hE,hL,hkp,hbi,hab⟩ Ql hnl hel
  dsimp only at hi hE hL hkp hbi hab ⊢
  by_cases hi':i<m.prs.length
  · have hpb:=prsL_mem hm.pr _ (getD_mem (d:=default) hi')
    have htl:=pairB_tab hpb hm
    have hti:=tab_in hpb
    have hts:(T0 m).take (i+1)=(T0 m).take i++[firstV (m.prs.getD i default).tab]:=by
      rw[take_snoc (by unfold T0;rw[List.length_map];exact hi')]
      unfold T0;rw[map_getD _ _ _ hi']
    generalize hpp:m.prs.getD i default=p at *
    repeat' (first|(refine Xr (X3 @hpp @Oc2 @ePr.eq_1) ?_;intro K hK)|refine Xo (X3 @hpp @Oc2 @ePr.eq_1) ?_|(refine hK _ ?_;clear hK K)|(refine Xg (X3 @hpp @Oc2 @ePr.eq_1) ?_ ?_<;>try intro hb)|(refine Xi ?_ ?_<;>try intro ht)|refine Xz ?_|refine Xe ?_|refine Xd ?_ ?_|omega|with_reducible rfl|exact trivial)
    have hvl:(firstV p.tab).length=p.tab.length:=by unfold firstV;simp
    refine W_loopS (fun z:Nat × List Ob × Nat × List Nm=>(⟨slots [(1,.ptr os.length 0 0),(3,.ptr (os.length+1) 0 0),(63,.tree 4 (rowsOf ePr m.prs)),(64,.lit (.int .i64 m.prs.length)),(65,.lit (.int .i64 i)),(14,.ref z.2.2.1 2 0 z.2.2.2.length),(70,.tree 1 (ints p.tab)),(71,.lit (.int .i64 p.tab.length)),(72,.lit (.int .i64 z.1))],z.2.1⟩:St))
      (fun z=>z.1≤p.tab.length∧LO eNm [(os.length+1,.var (gC m ai bi D E)),(bi,.arr 1 (rowsOf eRf E)),(os.length,.var (eMdl m)),(ai,.arr 1 (rowsOf eRf D))] E D ((T0 m).take i) (S0 m) z.2.1∧Keep os z.2.1∧z.2.1[z.2.2.1]?=some (.arr 2 (rowsOf eNm z.2.2.2))∧z.2.2.1 ∉ List.map (fun q:Nat × Nat=>q.1) (E++D)∧os.length≤z.2.2.1∧z.2.2.2=(firstV p.tab).take z.1)
      (fun z=>p.tab.length - z.1) (0,(ob++[.var (ePr p)])++[.arr 2 []],(ob++[Ob.var (ePr p)]).length,[]) ⟨Nat.zero_le _,(hL.app _).app _,(hkp.app _).app _,oL0 _ _ _,(hL.app [.var (ePr p)]).fresh (Nat.le_refl _),by simp;have:=hkp.len;omega,rfl⟩ ?_ ?_
    · refine Turns.trans (Turns.nil 14 2 (by simp only[Kc,simprocAttr]) (by decide)) ?_
      exact Xv X0
    clear hL hkp
    rintro ⟨k,ok,oi,xs⟩ ⟨hk,hL,hkp,foi,hfr,hoi,hxs⟩ Ql2 hnl2 hel2
    dsimp only at hk hL hkp foi hfr hoi hxs ⊢
    by_cases hk':k<p.tab.length
    · have hox:(firstV p.tab).getD k default=ofN (p.tab.getD k 0):=by
        unfold firstV;rw[map_getD _ _ _ hk'];rfl
      have htx:=take_snoc (l:=firstV p.tab) (k:=k) (by omega)
      rw[hox,← hxs] at htx
      have hxl:xs.length=k:=by rw[hxs,List.length_take];omega
      have hs:=hti _ (getD_mem (d:=0) hk')
      unfold In41 at hs
      generalize hyy:p.tab.getD k 0=s at *
      have hof:=of_ok s
      have eoi:=oLo foi
      have soi:=oSo foi
      have hol:=(List.getElem?_eq_some_iff.1 foi).1
      repeat' (first|(refine Xq (X5 @hyy @foi @eoi @soi (X5 @eNm.eq_1 @ofN.eq_1 @Oc2 @List.append_assoc.{0} (X3 @List.length_append.{0} @List.length_set.{0} @eNm_app))) ?_;intro K hK)|refine Xo (X5 @hyy @foi @eoi @soi (X5 @eNm.eq_1 @ofN.eq_1 @Oc2 @List.append_assoc.{0} (X3 @List.length_append.{0} @List.length_set.{0} @eNm_app))) ?_|refine Xc (hof) ?_|(refine hK _ ?_;clear hK K)|(refine Xg (X5 @hyy @foi @eoi @soi (X5 @eNm.eq_1 @ofN.eq_1 @Oc2 @List.append_assoc.{0} (X3 @List.length_append.{0} @List.length_set.{0} @eNm_app))) ?_ ?_<;>try intro hb)|(refine Xi ?_ ?_<;>try intro ht)|refine Xz ?_|refine Xe ?_|refine Xd ?_ ?_|omega|with_reducible rfl|exact trivial)
      all_goals try (exfalso;omega)
      have hL2:=(hL.killR (y:=.gone) hfr foi).app [.arr 2 [eNm (ofN s)],.arr 2 (rowsOf eNm (xs++[ofN s]))]
      refine hnl2 _ (k+1,ok.set oi .gone++[.arr 2 [eNm (ofN s)],.arr 2 (rowsOf eNm (xs++[ofN s]))],ok.length+1,xs++[ofN s]) ⟨by dsimp only;omega,hL2,(hkp.set hoi).app _,oLs _ _ _ _ _,(hL.killR (y:=.gone) hfr foi).fresh (by dsimp only;rw[List.length_set];omega),by dsimp only;have:=hkp.len;omega,htx.symm⟩ (by dsimp only;omega) ?_
      exact Xv (X2 @eNm.eq_1 @ofN.eq_1)
    · rw[List.take_of_length_le (by omega)] at hxs
      have hg0:=(hL.base (os.length+1,.var (gC m ai bi D E)) (by simp)).1
      have ha0:=(hL.base (bi,.arr 1 (rowsOf eRf E)) (by simp)).1
      have ha3:=(List.getElem?_eq_some_iff.1 (hL.base (ai,.arr 1 (rowsOf eRf D)) (by simp)).1).1
      dsimp only at hg0 ha0 ha3
      have eg0:=oLo hg0
      have ea0:=oLo ha0
      have sa0:=oSo ha0
      have hg1:(ok.set bi .gone)[os.length+1]?=some (.var (gC m ai bi D E)):=by rw[List.getElem?_set_ne (by omega)];exact hg0
      have hgs:=oLo hg1
      have hgw:=oSo hg1
      have hst:=hL.step foi hfr (by simp only[List.mem_cons,List.not_mem_nil,or_false,forall_eq_or_imp,forall_eq];omega) [.tree 1 (rowsOf eCls m.cls),.tree 4 (rowsOf ePr m.prs),.tree 4 (rowsOf eCt m.cts),.lit (.int .i64 m.rules),.ref ai 1 0 D.length,.ref (ok.length+1) 1 0 (E.length+1)] (rowsOf eRf (E++[(oi,xs.length)])) (.arr 1 [[.ref oi 2 0 xs.length]])
      have egc:gC m ai (ok.length+1) D (E++[(oi,xs.length)])=[.tree 1 (rowsOf eCls m.cls),.tree 4 (rowsOf ePr m.prs),.tree 4 (rowsOf eCt m.cts),.lit (.int .i64 m.rules),.ref ai 1 0 D.length,.ref (ok.length+1) 1 0 (E.length+1)]:=by simp[gC]
      have hal:=(List.getElem?_eq_some_iff.1 ha0).1
      repeat' (first|(refine Xr X0 ?_;intro K hK)|refine Xo X0 ?_|(refine hK _ ?_;clear hK K)|(refine Xg X0 ?_ ?_<;>try intro hb)|(refine Xi ?_ ?_<;>try intro ht)|refine Xz ?_|refine Xe ?_|refine Xd ?_ ?_|omega|with_reducible rfl|exact trivial)
      refine hel2 _ _ rfl ?_
      clear hnl2 hel2 Ql2
      repeat (first|refine Xu ?_)
      repeat' (first|(refine Xr (X5 @hg0 @ha0 @eg0 @ea0 (X5 @sa0 @hgs @hgw @gC.eq_1 (X5 @eRf_app @Oc2 @List.append_assoc.{0} @List.length_append.{0} @List.length_set.{0}))) ?_;intro K hK)|refine Xo (X5 @hg0 @ha0 @eg0 @ea0 (X5 @sa0 @hgs @hgw @gC.eq_1 (X5 @eRf_app @Oc2 @List.append_assoc.{0} @List.length_append.{0} @List.length_set.{0}))) ?_|(refine hK _ ?_;clear hK K)|(refine Xg (X5 @hg0 @ha0 @eg0 @ea0 (X5 @sa0 @hgs @hgw @gC.eq_1 (X5 @eRf_app @Oc2 @List.append_assoc.{0} @List.length_append.{0} @List.length_set.{0}))) ?_ ?_<;>try intro hb)|(refine Xi ?_ ?_<;>try intro ht)|refine Xz ?_|refine Xe ?_|refine Xd ?_ ?_|omega|with_reducible rfl|exact trivial)
      all_goals try (exfalso;omega)
      refine hnl _ (i+1,_,ok.length+1,E++[(oi,xs.length)]) ⟨by dsimp only;omega,by simp;omega,by dsimp only;rw[hts,← hxs,egc];exact hst,((hkp.set (by omega)).set (by omega)).app _,by dsimp only;omega,by dsimp only;omega⟩ (by dsimp only;omega) ?_
      exact Xv X0
  rw[List.take_of_length_le (by unfold T0;rw[List.length_map];omega)] at hL
  repeat' (first|(refine Xr X0 ?_;intro K hK)|refine Xo X0 ?_|(refine hK _ ?_;clear hK K)|(refine Xg X0 ?_ ?_<;>try intro hb)|(refine Xi ?_ ?_<;>try intro ht)|refine Xz ?_|refine Xe ?_|refine Xd ?_ ?_|omega|with_reducible rfl|exact trivial)
  refine hel _ _ rfl ?_;clear hnl hel Ql
  repeat (first|refine Xu ?_)
  repeat' (first|(refine Xr X0 ?_;intro K hK)|refine Xo X0 ?_|(refine hK _ ?_;clear hK K)|(refine Xg X0 ?_ ?_<;>try intro hb)|(refine Xi ?_ ?_<;>try intro ht)|refine Xz ?_|refine Xh ?_|refine Xe ?_|refine Xd ?_ ?_|omega|with_reducible rfl|exact trivial)
  unfold retR
  simp only[resW,retV]
  simp (disch:=omega) only[Ac,↓Pc,simprocAttr]
  refine⟨.ptr (os.length+1) 0 0,ob,⟨os.length+1,ai,bi,D,E,rfl,hL.swap.sub ?_,hkp⟩,RetOK_all rfl hkp.len rfl⟩
  simp only[List.mem_cons,List.not_mem_nil,or_false];intro b hb;rcases hb with rfl | rfl | rfl<;>simp
end T
open Go Go.Am Go.Proofs
open Nat (reduceEqDiff reduceAdd reduceLeDiff reduceMul)
open Int (reduceNeg reduceLE reduceToNat)
set_option maxRecDepth 20000
namespace T
set_option maxHeartbeats 8000000 in
theorem options_ok {m:Mdl} (hm:VM m) {gi ai bi:Nat} {D E:List (Nat × Nat)} {S T:List (List Nm)} {os:List Ob} (h:LO eNm (GB m gi ai bi D E) D E S T os) {B:Int} (hg:LG m B (S,T)) {left:List (List Bool)} (hf:FitsP m left) (c:Nat) (hc:c<m.cls.length) :
    HoldsR Tryz.prog 87 [.ptr gi 0 0,.lit (.int .i64 c),.tree 1 (rowsOf eBs left)] os fun r ob=>Keep os ob∧∃ id,r=.ref id 2 0 (optsV (S.getD c default) (left.getD c default)).length∧ob[id]?=some (.arr 2 (rowsOf eNm (optsV (S.getD c default) (left.getD c default)))):=by
  obtain ⟨fg,fa,fb⟩:=GBf h
  have hD:=h.rD.len
  have hs1:S.length=m.cls.length:=hg.s
  have hc4:=hm.cls
  have hfl:=hf.1
  obtain ⟨rD1,rD2⟩:=h.rD.row c (by omega)
  have hSl:(S.getD c default).length=(m.cls.getD c default).length:=hg.sl c hc
  have hll:=hf.2 c (by omega)
  have ho24:=hm.opt _ (getD_mem (l:=m.cls) (i:=c) (d:=default) hc)
  generalize hrow:S.getD c default=row at *
  generalize hlc:left.getD c default=lc at *
  refine HoldsR.of_body' (fn:=Tryz.f87) 36 os.length [.tmp 6] Tryz.func87 rfl rfl rfl rfl rfl (by simp) ?_
  repeat' (first|(refine Xr (X5 @fg @fa @gC.eq_1 @rD1 @eRf.eq_1) ?_;intro K hK)|refine Xo (X5 @fg @fa @gC.eq_1 @rD1 @eRf.eq_1) ?_|(refine hK _ ?_;clear hK K)|(refine Xg (X5 @fg @fa @gC.eq_1 @rD1 @eRf.eq_1) ?_ ?_<;>try intro hb)|(refine Xi ?_ ?_<;>try intro ht)|refine Xz ?_|refine Xh ?_|refine Xe ?_|refine Xd ?_ ?_|omega|with_reducible rfl|exact trivial)
  all_goals try (exfalso;omega)
  have hdl:(D.getD c default).2=row.length:=rD2.symm
  refine W_loopS (fun z:Nat × List Ob × Nat × List Nm=>(⟨slots [(1,.lit (.int .i64 c)),(2,.tree 1 (rowsOf eBs left)),(7,.ref z.2.2.1 2 0 z.2.2.2.length),(16,.ref (D.getD c default).1 2 0 row.length),(17,.lit (.int .i64 row.length)),(18,.lit (.int .i64 z.1))],z.2.1⟩:St))
    (fun z=>z.1≤row.length∧Keep os z.2.1∧z.2.1[z.2.2.1]?=some (.arr 2 (rowsOf eNm z.2.2.2))∧os.length≤z.2.2.1∧z.2.2.2=optsV (row.take z.1) (lc.take z.1)∧z.2.2.2.length≤z.1)
    (fun z=>row.length - z.1) (0,os++[.arr 2 []],os.length,[]) ⟨Nat.zero_le _,(Keep.refl os).app _,oL0 _ _ _,Nat.le_refl _,rfl,Nat.le_refl _⟩ ?_ ?_
  · refine Turns.trans (Turns.nil 7 2 (by simp only[Kc,simprocAttr]) (by decide)) ?_
    exact Xv @hdl
  rintro ⟨i,ob,ti,xs⟩ ⟨hi,hkp,fti,hti,hxs,hxl⟩ Ql hnl hel
  dsimp only at hi hkp fti hti hxs hxl ⊢
  have r1:=hkp _ _ rD1
  have er1:=oLo r1
  have eti:=oLo fti
  have sti:=oSo fti
  have htl:=(List.getElem?_eq_some_iff.1 fti).1
  by_cases hi':i<row.length
  · have h1:=take_snoc hi'
    have h2:=take_snoc (l:=lc) (k:=i) (by omega)
    have h3:=optsV_snoc (row.getD i default) (lc.getD i default) (row.take i) (lc.take i) (by rw[List.length_take,List.length_take];omega)
    rw[← h1,← h2,← hxs] at h3
    have hsd:lc.getD i default=lc.getD i false:=rfl
    rw[hsd] at h3
    generalize hpp:row.getD i default=p at *
    generalize hss:lc.getD i false=is at *
    cases is
    · simp only[Bool.false_eq_true,if_false,List.append_nil] at h3
      repeat' (first|(refine Xr (X5 @r1 @er1 @eNm.eq_1 @hpp (X4 @hlc @hss @eBs.eq_1 @Oc2)) ?_;intro K hK)|refine Xo (X5 @r1 @er1 @eNm.eq_1 @hpp (X4 @hlc @hss @eBs.eq_1 @Oc2)) ?_|(refine hK _ ?_;clear hK K)|(refine Xg (X5 @r1 @er1 @eNm.eq_1 @hpp (X4 @hlc @hss @eBs.eq_1 @Oc2)) ?_ ?_<;>try intro hb)|(refine Xi ?_ ?_<;>try intro ht)|refine Xz ?_|refine Xe ?_|refine Xd ?_ ?_|omega|with_reducible rfl|exact trivial)
      all_goals try (exfalso;omega)
      refine hnl _ (i+1,ob++[.var (eNm p)],ti,xs) ⟨by dsimp only;omega,hkp.app _,eti _,hti,h3.symm,by dsimp only;omega⟩ (by dsimp only;omega) ?_
      exact Xv X0
    · simp only[if_true] at h3
      have en1:rowsOf eNm xs++[[AV.lit (.int .i64 p.1),.lit (.bool p.2)]]=rowsOf eNm (xs++[p]):=by simp[rowsOf,eNm]
      repeat' (first|(refine Xr (X5 @r1 @er1 @fti @eti (X5 @sti @eNm.eq_1 @hpp @hlc (X5 @hss @eBs.eq_1 @en1 @Oc2 (X3 @List.append_assoc.{0} @List.length_append.{0} @List.length_set.{0})))) ?_;intro K hK)|refine Xo (X5 @r1 @er1 @fti @eti (X5 @sti @eNm.eq_1 @hpp @hlc (X5 @hss @eBs.eq_1 @en1 @Oc2 (X3 @List.append_assoc.{0} @List.length_append.{0} @List.length_set.{0})))) ?_|(refine hK _ ?_;clear hK K)|(refine Xg (X5 @r1 @er1 @fti @eti (X5 @sti @eNm.eq_1 @hpp @hlc (X5 @hss @eBs.eq_1 @en1 @Oc2 (X3 @List.append_assoc.{0} @List.length_append.{0} @List.length_set.{0})))) ?_ ?_<;>try intro hb)|(refine Xi ?_ ?_<;>try intro ht)|refine Xz ?_|refine Xe ?_|refine Xd ?_ ?_|omega|with_reducible rfl|exact trivial)
      all_goals try (exfalso;omega)
      refine hnl _ (i+1,ob.set ti .gone++[.var (eNm p),.arr 2 [eNm p],.arr 2 (rowsOf eNm (xs++[p]))],ob.length+2,xs++[p]) ⟨by dsimp only;omega,(hkp.set hti).app _,oLs _ _ _ _ _,by dsimp only;have:=hkp.len;omega,h3.symm,by simp;omega⟩ (by dsimp only;omega) ?_
      exact Xv @eNm.eq_1
  · rw[List.take_of_length_le (by omega),List.take_of_length_le (by omega)] at hxs
    repeat' (first|(refine Xr X0 ?_;intro K hK)|refine Xo X0 ?_|(refine hK _ ?_;clear hK K)|(refine Xg X0 ?_ ?_<;>try intro hb)|(refine Xi ?_ ?_<;>try intro ht)|refine Xz ?_|refine Xe ?_|refine Xd ?_ ?_|omega|with_reducible rfl|exact trivial)
    refine hel _ _ rfl ?_;clear hnl hel Ql
    repeat (first|refine Xu ?_)
    repeat' (first|(refine Xr X0 ?_;intro K hK)|refine Xo X0 ?_|(refine hK _ ?_;clear hK K)|(refine Xg X0 ?_ ?_<;>try intro hb)|(refine Xi ?_ ?_<;>try intro ht)|refine Xz ?_|refine Xh ?_|refine Xe ?_|refine Xd ?_ ?_|omega|with_reducible rfl|exact trivial)
    unfold retR
    simp only[resW,retV]
    simp (disch:=omega) only[Ac,↓Pc,simprocAttr]
    rw[← hxs]
    exact⟨_,_,⟨hkp,ti,rfl,fti⟩,RetOK_all rfl hkp.len rfl⟩
end T
open Go Go.Am Go.Proofs
open Nat (reduceEqDiff reduceAdd reduceLeDiff reduceMul)
open Int (reduceNeg reduceLE reduceToNat)
set_option maxRecDepth 20000
namespace T
set_option maxHeartbeats 8000000 in
theorem entries_ok {m:Mdl} (hm:VM m) {gi ai bi:Nat} {D E:List (Nat × Nat)} {S T:List (List Nm)} {os:List Ob} (h:LO eNm (GB m gi ai bi D E) D E S T os) {B:Int} (hg:LG m B (S,T)) {left:List (List Bool)} (hf:FitsP m left) (c:Nat) (hc:c<m.prs.length) :
    HoldsR Tryz.prog 88 [.ptr gi 0 0,.lit (.int .i64 c),.tree 1 (rowsOf eBs left)] os fun r ob=>Keep os ob∧∃ id,r=.ref id 2 0 (optsV (T.getD c default) (prB m left c)).length∧ob[id]?=some (.arr 2 (rowsOf eNm (optsV (T.getD c default) (prB m left c)))):=by
  obtain ⟨fg,fa,fb⟩:=GBf h
  have eg:=oLo fg
  have ea:=oLo fa
  have eb:=oLo fb
  have hD:=h.rD.len
  have hE:=h.rE.len
  have hs1:S.length=m.cls.length:=hg.s
  have ht1:T.length=m.prs.length:=hg.t
  have hc4:=hm.cls
  have hp4:=hm.prs
  have hfl:=hf.1
  obtain ⟨rE1,rE2⟩:=h.rE.row c (by omega)
  have hTl:(T.getD c default).length=(m.prs.getD c default).tab.length:=hg.tl c hc
  have hpb:=prsL_mem hm.pr _ (getD_mem (d:=default) hc)
  obtain ⟨pb1,pb2,pb3,pb4⟩:=pairB_in hpb
  have htl:=pairB_tab hpb hm
  have hla:=hf.2 (m.prs.getD c default).fst.toNat (by omega)
  have hlb:=hf.2 (m.prs.getD c default).snd.toNat (by omega)
  have hoa:=hm.opt _ (getD_mem (l:=m.cls) (i:=(m.prs.getD c default).fst.toNat) (d:=default) (by omega))
  have hob:=hm.opt _ (getD_mem (l:=m.cls) (i:=(m.prs.getD c default).snd.toNat) (d:=default) (by omega))
  obtain ⟨rP1,rP2⟩:=h.rD.row (m.prs.getD c default).snd.toNat (by omega)
  have hPl:(S.getD (m.prs.getD c default).snd.toNat default).length=(m.cls.getD (m.prs.getD c default).snd.toNat default).length:=hg.sl _ (by omega)
  have hprB:prB m left c=bothV (left.getD (m.prs.getD c default).fst.toNat default) (left.getD (m.prs.getD c default).snd.toNat default):=rfl
  have hbl:=bothV_len (left.getD (m.prs.getD c default).snd.toNat default) (left.getD (m.prs.getD c default).fst.toNat default)
  have hbg:=bothV_get (left.getD (m.prs.getD c default).snd.toNat default) (left.getD (m.prs.getD c default).fst.toNat default)
  rw[← hprB] at hbl hbg
  generalize hrow:T.getD c default=row at *
  generalize hpp:m.prs.getD c default=p at *
  generalize hLA:left.getD p.fst.toNat default=la at *
  generalize hLB:left.getD p.snd.toNat default=lb at *
  generalize prB m left c=pb at *
  have hwid:(D.getD p.snd.toNat default).2=lb.length:=by rw[← rP2,hPl,hlb]
  have hel2:row.length=pb.length:=by
    rw[hbl,hla,hlb,hTl]
    have:=pb4
    rw[← Int.natCast_mul] at this
    exact Int.ofNat_inj.1 this
  have hdl:(E.getD c default).2=row.length:=rE2.symm
  have qp:=oLo rP1
  have qe:=oLo rE1
  refine HoldsR.of_body' (fn:=Tryz.f88) 70 os.length [.tmp 6] Tryz.func88 rfl rfl rfl rfl rfl (by simp) ?_
  repeat' (first|(refine Xr (X5 @fg @fa @fb @eg (X5 @ea @eb @gC.eq_1 @rP1 (X5 @qp @rE1 @qe @eRf.eq_1 (X5 @hpp @ePr.eq_1 @Oc2 @hwid @hdl)))) ?_;intro K hK)|refine Xo (X5 @fg @fa @fb @eg (X5 @ea @eb @gC.eq_1 @rP1 (X5 @qp @rE1 @qe @eRf.eq_1 (X5 @hpp @ePr.eq_1 @Oc2 @hwid @hdl)))) ?_|(refine hK _ ?_;clear hK K)|(refine Xg (X5 @fg @fa @fb @eg (X5 @ea @eb @gC.eq_1 @rP1 (X5 @qp @rE1 @qe @eRf.eq_1 (X5 @hpp @ePr.eq_1 @Oc2 @hwid @hdl)))) ?_ ?_<;>try intro hb)|(refine Xi ?_ ?_<;>try intro ht)|refine Xz ?_|refine Xh ?_|refine Xe ?_|refine Xd ?_ ?_|omega|with_reducible rfl|exact trivial)
  all_goals try (exfalso;omega)
  refine W_loopS (fun z:Nat × List Ob × Nat × List Nm=>(⟨slots [(2,.tree 1 (rowsOf eBs left)),(7,.ptr os.length 0 0),(8,.lit (.int .i64 lb.length)),(9,.ref z.2.2.1 2 0 z.2.2.2.length),(35,.ref (E.getD c default).1 2 0 row.length),(36,.lit (.int .i64 row.length)),(37,.lit (.int .i64 z.1))],z.2.1⟩:St))
    (fun z=>z.1≤row.length∧Keep (os++[.var (ePr p)]) z.2.1∧z.2.1[z.2.2.1]?=some (.arr 2 (rowsOf eNm z.2.2.2))∧os.length<z.2.2.1∧z.2.2.2=optsV (row.take z.1) (pb.take z.1)∧z.2.2.2.length≤z.1)
    (fun z=>row.length - z.1) (0,(os++[.var (ePr p)])++[.arr 2 []],(os++[Ob.var (ePr p)]).length,[]) ⟨Nat.zero_le _,(Keep.refl _).app _,oL0 _ _ _,by simp,rfl,Nat.le_refl _⟩ ?_ ?_
  · refine Turns.trans (Turns.nil 9 2 (by simp only[Kc,simprocAttr]) (by decide)) ?_
    exact Xv (X2 @hdl @hwid)
  rintro ⟨i,ob,ti,xs⟩ ⟨hi,hkp,fti,hti,hxs,hxl⟩ Ql hnl hel
  dsimp only at hi hkp fti hti hxs hxl ⊢
  have r1:=hkp _ _ (qe [.var (ePr p)])
  have rv:ob[os.length]?=some (.var (ePr p)):=hkp _ _ (oL0 _ _ _)
  have er1:=oLo r1
  have erv:=oLo rv
  have eti:=oLo fti
  have sti:=oSo fti
  have htl2:=(List.getElem?_eq_some_iff.1 fti).1
  have hkl:=hkp.len
  rw[List.length_append,List.length_singleton] at hkl
  by_cases hi':i<row.length
  · have h1:=take_snoc hi'
    have h2:=take_snoc (l:=pb) (k:=i) (by omega)
    have h3:=optsV_snoc (row.getD i default) (pb.getD i default) (row.take i) (pb.take i) (by rw[List.length_take,List.length_take];omega)
    rw[← h1,← h2,← hxs] at h3
    have hsd:pb.getD i default=(la.getD (i / lb.length) false && lb.getD (i % lb.length) false):=hbg i (by omega)
    rw[hsd] at h3
    have hlb0:0<lb.length:=by
      rcases Nat.eq_zero_or_pos lb.length with h0 | h0
      · rw[h0,Nat.mul_zero] at hbl;omega
      · exact h0
    have hdiv:i / lb.length<la.length:=by rw[Nat.div_lt_iff_lt_mul hlb0];omega
    have hmod:=Nat.mod_lt i hlb0
    have hq:((i:Int).tdiv lb.length)=((i / lb.length:Nat):Int):=by rw[Int.tdiv_eq_ediv_of_nonneg (by omega)];simp
    have hr:((i:Int).tmod lb.length)=((i % lb.length:Nat):Int):=by rw[Int.tmod_eq_emod_of_nonneg (by omega)];simp
    have hq2:((i:Int) / (lb.length:Int))=((i / lb.length:Nat):Int):=by simp
    have hr2:((i:Int) % (lb.length:Int))=((i % lb.length:Nat):Int):=by simp
    generalize hdd:i / lb.length=dd at *
    generalize hmm:i % lb.length=mm at *
    generalize hpq:row.getD i default=q at *
    generalize hia:la.getD dd false=ia at *
    generalize hib:lb.getD mm false=ib at *
    have en1:rowsOf eNm xs++[[AV.lit (.int .i64 q.1),.lit (.bool q.2)]]=rowsOf eNm (xs++[q]):=by simp[rowsOf,eNm]
    cases ia<;>cases ib
    all_goals
      simp only[Bool.false_and,Bool.true_and,Bool.false_eq_true,if_false,if_true,List.append_nil] at h3
      repeat' (first|(refine Xr (X5 @r1 @er1 @rv @erv (X5 @fti @eti @sti @eNm.eq_1 (X5 @ePr.eq_1 @hpq @hLA @hLB (X5 @hq @hr @hq2 @hr2 (X5 @hia @hib @eBs.eq_1 @en1 (X5 @Oc2 @Int.toNat_natCast @List.append_assoc.{0} @List.length_append.{0} @List.length_set.{0})))))) ?_;intro K hK)|refine Xo (X5 @r1 @er1 @rv @erv (X5 @fti @eti @sti @eNm.eq_1 (X5 @ePr.eq_1 @hpq @hLA @hLB (X5 @hq @hr @hq2 @hr2 (X5 @hia @hib @eBs.eq_1 @en1 (X5 @Oc2 @Int.toNat_natCast @List.append_assoc.{0} @List.length_append.{0} @List.length_set.{0})))))) ?_|(refine hK _ ?_;clear hK K)|(refine Xg (X5 @r1 @er1 @rv @erv (X5 @fti @eti @sti @eNm.eq_1 (X5 @ePr.eq_1 @hpq @hLA @hLB (X5 @hq @hr @hq2 @hr2 (X5 @hia @hib @eBs.eq_1 @en1 (X5 @Oc2 @Int.toNat_natCast @List.append_assoc.{0} @List.length_append.{0} @List.length_set.{0})))))) ?_ ?_<;>try intro hb)|(refine Xi ?_ ?_<;>try intro ht)|refine Xz ?_|refine Xe ?_|refine Xd ?_ ?_|omega|with_reducible rfl|exact trivial)
      all_goals try (exfalso;omega)
    all_goals first
      | (refine hnl _ (i+1,ob++[.var (eNm q)],ti,xs) ⟨by dsimp only;omega,hkp.app _,eti _,hti,h3.symm,by dsimp only;omega⟩ (by dsimp only;omega) ?_
         exact Xv @eNm.eq_1;done)
      | (refine hnl _ (i+1,ob.set ti .gone++[.var (eNm q),.arr 2 [eNm q],.arr 2 (rowsOf eNm (xs++[q]))],ob.length+2,xs++[q]) ⟨by dsimp only;omega,(hkp.set (by rw[List.length_append,List.length_singleton];omega)).app _,oLs _ _ _ _ _,by dsimp only;omega,h3.symm,by simp;omega⟩ (by dsimp only;omega) ?_
         exact Xv @eNm.eq_1;done)
  · rw[List.take_of_length_le (by omega),List.take_of_length_le (by omega)] at hxs
    repeat' (first|(refine Xr X0 ?_;intro K hK)|refine Xo X0 ?_|(refine hK _ ?_;clear hK K)|(refine Xg X0 ?_ ?_<;>try intro hb)|(refine Xi ?_ ?_<;>try intro ht)|refine Xz ?_|refine Xe ?_|refine Xd ?_ ?_|omega|with_reducible rfl|exact trivial)
    refine hel _ _ rfl ?_;clear hnl hel Ql
    repeat (first|refine Xu ?_)
    repeat' (first|(refine Xr X0 ?_;intro K hK)|refine Xo X0 ?_|(refine hK _ ?_;clear hK K)|(refine Xg X0 ?_ ?_<;>try intro hb)|(refine Xi ?_ ?_<;>try intro ht)|refine Xz ?_|refine Xh ?_|refine Xe ?_|refine Xd ?_ ?_|omega|with_reducible rfl|exact trivial)
    unfold retR
    simp only[resW,retV]
    simp (disch:=omega) only[Ac,↓Pc,simprocAttr]
    rw[← hxs]
    refine⟨_,ob,⟨fun k o hk=>hkp k o (oLo hk _),ti,rfl,fti⟩,RetOK_all rfl (by omega) rfl⟩
end T
open Go Go.Am Go.Proofs
open Nat (reduceEqDiff reduceAdd reduceLeDiff reduceMul)
open Int (reduceNeg reduceLE reduceToNat)
set_option maxRecDepth 20000
namespace T
theorem enm1 (xs:List Nm) (q:Nm):rowsOf eNm xs++[[AV.lit (.int .i64 q.1),.lit (.bool q.2)]]=rowsOf eNm (xs++[q]):=by simp[rowsOf,eNm]
set_option maxHeartbeats 16000000 in
theorem valueM_ok {m:Mdl} (hm:VM m) {gi ai bi:Nat} {D E:List (Nat × Nat)} {S T:List (List Nm)} {os:List Ob} (h:LO eNm (GB m gi ai bi D E) D E S T os) (hg:LG m BIG (S,T)) {left:List (List Bool)} (hf:FitsP m left) :
    HoldsR Tryz.prog 49 [.ptr gi 0 0,.tree 1 (rowsOf eBs left)] os fun r ob=>r=.lit (.int .i64 (valV m left (S,T)))∧os.length≤ob.length:=by
  obtain ⟨fg,fa,fb⟩:=GBf h
  have eg:=oLo fg
  have ea:=oLo fa
  have eb:=oLo fb
  have hD:=h.rD.len
  have hE:=h.rE.len
  have hs1:S.length=m.cls.length:=hg.s
  have ht1:T.length=m.prs.length:=hg.t
  have hc4:=hm.cls
  have hp4:=hm.prs
  have hk4:=hm.cts
  have hfl:=hf.1
  rw[valV_par]
  refine HoldsR.of_body' (fn:=Tryz.f49) 80 os.length [.tmp 4] Tryz.func49 rfl rfl rfl rfl rfl (by simp) ?_
  repeat' (first|(refine Xr (X3 @fg @fa @gC.eq_1) ?_;intro K hK)|refine Xo (X3 @fg @fa @gC.eq_1) ?_|(refine hK _ ?_;clear hK K)|(refine Xg (X3 @fg @fa @gC.eq_1) ?_ ?_<;>try intro hb)|(refine Xi ?_ ?_<;>try intro ht)|refine Xz ?_|refine Xh ?_|refine Xe ?_|refine Xd ?_ ?_|omega|with_reducible rfl|exact trivial)
  all_goals try (exfalso;omega)
  have hDl:D.length=m.cls.length:=by omega
  refine W_loopS (fun z:Nat × List Ob × Nat × List Nm=>(⟨slots [(0,.ptr gi 0 0),(1,.tree 1 (rowsOf eBs left)),(5,.ref z.2.2.1 2 0 z.2.2.2.length),(17,.lit (.int .i64 m.cls.length)),(18,.lit (.int .i64 z.1))],z.2.1⟩:St))
    (fun z=>z.1≤m.cls.length∧Keep os z.2.1∧z.2.1[z.2.2.1]?=some (.arr 2 (rowsOf eNm z.2.2.2))∧os.length≤z.2.2.1∧z.2.2.2=(PC left S z.1).map ptN)
    (fun z=>m.cls.length - z.1) (0,os++[.arr 2 []],os.length,[]) ⟨Nat.zero_le _,(Keep.refl _).app _,oL0 _ _ _,Nat.le_refl _,rfl⟩ ?_ ?_
  · refine Turns.trans (Turns.nil 5 2 (by simp only[Kc,simprocAttr]) (by decide)) ?_
    exact Xv @hDl
  rintro ⟨i,ob,ti,ps⟩ ⟨hi,hkp,fti,hti,hps⟩ Ql hnl hel
  dsimp only at hi hkp fti hti hps ⊢
  have hpl:ps.length=i:=by rw[hps,List.length_map,PC_len]
  by_cases hi':i<m.cls.length
  · have hopt:=options_ok hm (h.keep hkp) hg hf i hi'
    have hst:(PC left S (i+1)).map ptN=ps++[lowA (optsV (S.getD i default) (left.getD i default))]:=by
      rw[show PC left S (i+1)=PC left S i++[lowN (S.getD i default) (left.getD i default) (0,false)] from range_snoc _ i,List.map_append,← hps,lowA_ptN];rfl
    have hlow:=lowest_ok (optsV (S.getD i default) (left.getD i default)) (by have:=optsV_le (S.getD i default) (left.getD i default);have:=hg.sl i hi';have:=hm.opt _ (getD_mem (d:=default) hi');dsimp only at *;omega)
    generalize optsV (S.getD i default) (left.getD i default)=rw' at *
    generalize lowA rw'=q at *
    repeat' (first|((fail_if_success (first|refine W_at 5 ?_|refine W_atE 5 ?_));refine Xr X0 ?_;intro K hK)|refine Xo X0 ?_|(refine hK _ ?_;clear hK K)|(refine Xg X0 ?_ ?_<;>try intro hb)|(refine Xi ?_ ?_<;>try intro ht)|refine Xz ?_|refine Xe ?_|refine Xd ?_ ?_|omega|with_reducible rfl|exact trivial)
    refine W_region_ce 4 (by decide) _ rfl ?_
    intro K hK
    simp (disch:=omega) only[Ac,↓Pc,simprocAttr,List.take,List.drop]
    refine⟨rfl,(show callKR Tryz.prog 87 [.ptr gi 0 0,.lit (.int .i64 i),.tree 1 (rowsOf eBs left)] (some 25) _ _ from ?_)⟩
    refine callKR_all hopt ?_
    rintro r ob2 ⟨hk2,id,rfl,hid⟩
    refine⟨hk2.len,?_⟩
    have fti2:=hk2 _ _ fti
    have eti2:=oLo fti2
    have sti2:=oSo fti2
    have hkl:=(hkp.trans hk2).len
    simp (disch:=omega) only[Ac,↓Pc,simprocAttr,List.drop]
    refine callK_snap [] hlow (by simp) trivial ⟨ArgR.fz hid (by rw[rows_length]) (by simp),trivial⟩ rfl (by simp) ?_
    simp (disch:=omega) only[Ac,↓Pc,simprocAttr,fti2,eti2,sti2,eNm,enm1,Oc2,List.append_assoc,List.length_append,List.length_set]
    repeat' (first|with_reducible refine And.intro ?_ ?_|omega|with_reducible rfl)
    refine hK _ ?_;clear hK K
    repeat (first|refine Xu ?_)
    repeat' (first|(refine Xr X0 ?_;intro K hK)|refine Xo X0 ?_|(refine hK _ ?_;clear hK K)|(refine Xg X0 ?_ ?_<;>try intro hb)|(refine Xi ?_ ?_<;>try intro ht)|refine Xz ?_|refine Xe ?_|refine Xd ?_ ?_|omega|with_reducible rfl|exact trivial)
    refine hnl _ (i+1,ob2.set ti .gone++[.arr 2 [eNm q],.arr 2 (rowsOf eNm (ps++[q]))],ob2.length+1,ps++[q]) ⟨by dsimp only;omega,((hkp.trans hk2).set hti).app _,oLs _ _ _ _ _,by dsimp only;omega,hst.symm⟩ (by dsimp only;omega) ?_
    exact Xv @eNm.eq_1
  have hiC:i=m.cls.length:=by omega
  rw[hiC] at hps
  have kg:=hkp _ _ fg
  have kb:=hkp _ _ fb
  have hElm:E.length=m.prs.length:=by omega
  repeat' (first|(refine Xr X0 ?_;intro K hK)|refine Xo X0 ?_|(refine hK _ ?_;clear hK K)|(refine Xg X0 ?_ ?_<;>try intro hb)|(refine Xi ?_ ?_<;>try intro ht)|refine Xz ?_|refine Xe ?_|refine Xd ?_ ?_|omega|with_reducible rfl|exact trivial)
  refine hel _ _ rfl ?_;clear hnl hel Ql
  repeat (first|refine Xu ?_)
  repeat' (first|(refine Xr (X3 @kg @kb @gC.eq_1) ?_;intro K hK)|refine Xo (X3 @kg @kb @gC.eq_1) ?_|(refine hK _ ?_;clear hK K)|(refine Xg (X3 @kg @kb @gC.eq_1) ?_ ?_<;>try intro hb)|(refine Xi ?_ ?_<;>try intro ht)|refine Xz ?_|refine Xe ?_|refine Xd ?_ ?_|omega|with_reducible rfl|exact trivial)
  refine W_loopS (fun z:Nat × List Ob × Nat × List Nm=>(⟨slots [(0,.ptr gi 0 0),(1,.tree 1 (rowsOf eBs left)),(5,.ref z.2.2.1 2 0 z.2.2.2.length),(34,.lit (.int .i64 m.prs.length)),(35,.lit (.int .i64 z.1))],z.2.1⟩:St))
    (fun z=>z.1≤m.prs.length∧Keep os z.2.1∧z.2.1[z.2.2.1]?=some (.arr 2 (rowsOf eNm z.2.2.2))∧os.length≤z.2.2.1∧z.2.2.2=(PC left S m.cls.length++PP m left T z.1).map ptN)
    (fun z=>m.prs.length - z.1) (0,ob,ti,ps) ⟨Nat.zero_le _,hkp,fti,hti,by rw[hps];simp[PP]⟩ (Xv @hElm) ?_
  clear hkp fti hti hps hpl hiC kg kb hi hi' ti ps
  rintro ⟨i,ob,ti,ps⟩ ⟨hi,hkp,fti,hti,hps⟩ Ql hnl hel
  dsimp only at hi hkp fti hti hps ⊢
  have hpl:ps.length=m.cls.length+i:=by rw[hps,List.length_map,List.length_append,PC_len,PP_len]
  by_cases hi':i<m.prs.length
  · have hopt:=entries_ok hm (h.keep hkp) hg hf i hi'
    have hst:(PC left S m.cls.length++PP m left T (i+1)).map ptN=ps++[lowA (optsV (T.getD i default) (prB m left i))]:=by
      rw[show PP m left T (i+1)=PP m left T i++[lowN (T.getD i default) (prB m left i) (0,false)] from range_snoc _ i,← List.append_assoc,List.map_append,← hps,lowA_ptN];rfl
    have hlow:=lowest_ok (optsV (T.getD i default) (prB m left i)) (by have:=optsV_le (T.getD i default) (prB m left i);have:=hg.tl i hi';have:=pairB_tab (prsL_mem hm.pr _ (getD_mem (d:=default) hi')) hm;dsimp only at *;omega)
    generalize optsV (T.getD i default) (prB m left i)=rw' at *
    generalize lowA rw'=q at *
    repeat' (first|((fail_if_success (first|refine W_at 10 ?_|refine W_atE 10 ?_));refine Xr X0 ?_;intro K hK)|refine Xo X0 ?_|(refine hK _ ?_;clear hK K)|(refine Xg X0 ?_ ?_<;>try intro hb)|(refine Xi ?_ ?_<;>try intro ht)|refine Xz ?_|refine Xe ?_|refine Xd ?_ ?_|omega|with_reducible rfl|exact trivial)
    refine W_region_ce 4 (by decide) _ rfl ?_
    intro K hK
    simp (disch:=omega) only[Ac,↓Pc,simprocAttr,List.take,List.drop]
    refine⟨rfl,(show callKR Tryz.prog 88 [.ptr gi 0 0,.lit (.int .i64 i),.tree 1 (rowsOf eBs left)] (some 42) _ _ from ?_)⟩
    refine callKR_all hopt ?_
    rintro r ob2 ⟨hk2,id,rfl,hid⟩
    refine⟨hk2.len,?_⟩
    have fti2:=hk2 _ _ fti
    have eti2:=oLo fti2
    have sti2:=oSo fti2
    have hkl:=(hkp.trans hk2).len
    simp (disch:=omega) only[Ac,↓Pc,simprocAttr,List.drop]
    refine callK_snap [] hlow (by simp) trivial ⟨ArgR.fz hid (by rw[rows_length]) (by simp),trivial⟩ rfl (by simp) ?_
    simp (disch:=omega) only[Ac,↓Pc,simprocAttr,fti2,eti2,sti2,eNm,enm1,Oc2,List.append_assoc,List.length_append,List.length_set]
    repeat' (first|with_reducible refine And.intro ?_ ?_|omega|with_reducible rfl)
    refine hK _ ?_;clear hK K
    repeat (first|refine Xu ?_)
    repeat' (first|(refine Xr X0 ?_;intro K hK)|refine Xo X0 ?_|(refine hK _ ?_;clear hK K)|(refine Xg X0 ?_ ?_<;>try intro hb)|(refine Xi ?_ ?_<;>try intro ht)|refine Xz ?_|refine Xe ?_|refine Xd ?_ ?_|omega|with_reducible rfl|exact trivial)
    refine hnl _ (i+1,ob2.set ti .gone++[.arr 2 [eNm q],.arr 2 (rowsOf eNm (ps++[q]))],ob2.length+1,ps++[q]) ⟨by dsimp only;omega,((hkp.trans hk2).set hti).app _,oLs _ _ _ _ _,by dsimp only;omega,hst.symm⟩ (by dsimp only;omega) ?_
    exact Xv @eNm.eq_1
  have hiP:i=m.prs.length:=by omega
  rw[hiP] at hps
  have kg:=hkp _ _ fg
  repeat' (first|(refine Xr X0 ?_;intro K hK)|refine Xo X0 ?_|(refine hK _ ?_;clear hK K)|(refine Xg X0 ?_ ?_<;>try intro hb)|(refine Xi ?_ ?_<;>try intro ht)|refine Xz ?_|refine Xe ?_|refine Xd ?_ ?_|omega|with_reducible rfl|exact trivial)
  refine hel _ _ rfl ?_;clear hnl hel Ql
  repeat (first|refine Xu ?_)
  repeat' (first|(refine Xr (X2 @kg @gC.eq_1) ?_;intro K hK)|refine Xo (X2 @kg @gC.eq_1) ?_|(refine hK _ ?_;clear hK K)|(refine Xg (X2 @kg @gC.eq_1) ?_ ?_<;>try intro hb)|(refine Xi ?_ ?_<;>try intro ht)|refine Xz ?_|refine Xe ?_|refine Xd ?_ ?_|omega|with_reducible rfl|exact trivial)
  refine W_loopS (fun z:Nat × List Ob × Nat × List Nm=>(⟨slots [(1,.tree 1 (rowsOf eBs left)),(5,.ref z.2.2.1 2 0 z.2.2.2.length),(51,.tree 4 (rowsOf eCt m.cts)),(52,.lit (.int .i64 m.cts.length)),(53,.lit (.int .i64 z.1))],z.2.1⟩:St))
    (fun z=>z.1≤m.cts.length∧Keep os z.2.1∧z.2.1[z.2.2.1]?=some (.arr 2 (rowsOf eNm z.2.2.2))∧os.length≤z.2.2.1∧z.2.2.2=(PC left S m.cls.length++PP m left T m.prs.length++PK m left z.1).map ptN)
    (fun z=>m.cts.length - z.1) (0,ob,ti,ps) ⟨Nat.zero_le _,hkp,fti,hti,by rw[hps];simp[PK]⟩ (Xv X0) ?_
  clear hkp fti hti hps hpl hiP kg hi hi' ti ps
  rintro ⟨i,ob,ti,ps⟩ ⟨hi,hkp,fti,hti,hps⟩ Ql hnl hel
  dsimp only at hi hkp fti hti hps ⊢
  have hpl:ps.length=m.cls.length+m.prs.length+i:=by rw[hps,List.length_map,List.length_append,List.length_append,PC_len,PP_len,PK_len]
  by_cases hi':i<m.cts.length
  · have hcm:=getD_mem (d:=default) hi'
    obtain ⟨q1,q2,q3,q4⟩:=ctB_lds hm hf hcm
    have h1:=least_ok (m.cts.getD i default) left left.length (Nat.le_refl _) q1 (by omega) (fun r hr=>by have:=hf.row hm r hr;omega) (by omega) q2 q3
    have h2:=of_ok (leastV left (m.cts.getD i default))
    have hst:(PC left S m.cls.length++PP m left T m.prs.length++PK m left (i+1)).map ptN=ps++[ofN (leastV left (m.cts.getD i default))]:=by
      rw[show PK m left (i+1)=PK m left i++[(leastV left (m.cts.getD i default),!(decide ((m.cts.getD i default).pen=1099511627776) && decide (0<leastV left (m.cts.getD i default))))] from range_snoc _ i,← List.append_assoc,List.map_append,← hps]
      congr 1
      simp only[List.map_cons,List.map_nil,ptN,ofN,Bool.not_not]
      rw[least_forb hm hfl hcm (fun x hx=>(q1 x hx).2)]
    have eti:=oLo fti
    have sti:=oSo fti
    have htl:=(List.getElem?_eq_some_iff.1 fti).1
    have hkl:=hkp.len
    generalize leastV left (m.cts.getD i default)=v at *
    generalize hcc:m.cts.getD i default=c at *
    repeat' (first|(refine Xq (X5 @fti @eti @sti @hcc (X5 @eCt.eq_1 @eNm.eq_1 @ofN.eq_1 @eNm_app (X4 @Oc2 @List.append_assoc.{0} @List.length_append.{0} @List.length_set.{0}))) ?_;intro K hK)|refine Xo (X5 @fti @eti @sti @hcc (X5 @eCt.eq_1 @eNm.eq_1 @ofN.eq_1 @eNm_app (X4 @Oc2 @List.append_assoc.{0} @List.length_append.{0} @List.length_set.{0}))) ?_|refine Xc (h1) ?_|refine Xc (h2) ?_|(refine hK _ ?_;clear hK K)|(refine Xg (X5 @fti @eti @sti @hcc (X5 @eCt.eq_1 @eNm.eq_1 @ofN.eq_1 @eNm_app (X4 @Oc2 @List.append_assoc.{0} @List.length_append.{0} @List.length_set.{0}))) ?_ ?_<;>try intro hb)|(refine Xi ?_ ?_<;>try intro ht)|refine Xz ?_|refine Xe ?_|refine Xd ?_ ?_|omega|with_reducible rfl|exact trivial)
    all_goals try (exfalso;omega)
    refine hnl _ (i+1,ob.set ti .gone++[.var (eCt c),.arr 2 [eNm (ofN v)],.arr 2 (rowsOf eNm (ps++[ofN v]))],ob.length+2,ps++[ofN v]) ⟨by dsimp only;omega,(hkp.set hti).app _,oLs _ _ _ _ _,by dsimp only;omega,hst.symm⟩ (by dsimp only;omega) ?_
    exact Xv (X3 @eNm.eq_1 @ofN.eq_1 @eCt.eq_1)
  have hiK:i=m.cts.length:=by omega
  rw[hiK] at hps hpl
  rw[show PC left S m.cls.length++PP m left T m.prs.length++PK m left m.cts.length=PAR m left (S,T) from rfl] at hps
  have hPl:(PAR m left (S,T)).length=m.cls.length+m.prs.length+m.cts.length:=by unfold PAR;rw[List.length_append,List.length_append,PC_len,PP_len,PK_len]
  have hPr:∀ p∈PAR m left (S,T),-BIG≤p.1∧p.1≤BIG:=fun p hp=>by
    unfold PAR at hp
    rw[List.mem_append,List.mem_append] at hp
    rcases hp with (hp | hp) | hp
    · exact PC_rg (by unfold BIG;decide) hg.sb _ p hp
    · exact PP_rg (by unfold BIG;decide) hg.tb _ p hp
    · have:=PK_rg hm _ p hp;unfold BIG;omega
  generalize PAR m left (S,T)=P at *
  repeat' (first|(refine Xr X0 ?_;intro K hK)|refine Xo X0 ?_|(refine hK _ ?_;clear hK K)|(refine Xg X0 ?_ ?_<;>try intro hb)|(refine Xi ?_ ?_<;>try intro ht)|refine Xz ?_|refine Xe ?_|refine Xd ?_ ?_|omega|with_reducible rfl|exact trivial)
  refine hel _ _ rfl ?_;clear hnl hel Ql
  repeat (first|refine Xu ?_)
  repeat' (first|(refine Xr @fti ?_;intro K hK)|refine Xo @fti ?_|(refine hK _ ?_;clear hK K)|(refine Xg @fti ?_ ?_<;>try intro hb)|(refine Xi ?_ ?_<;>try intro ht)|refine Xz ?_|refine Xe ?_|refine Xd ?_ ?_|omega|with_reducible rfl|exact trivial)
  all_goals try (exfalso;omega)
  refine W_loopS (fun z:Nat × List Ob=>(⟨slots [(10,.lit (.int .i64 (accV (P.take z.1) (0,false)).1)),(65,.ref ti 2 0 ps.length),(66,.lit (.int .i64 ps.length)),(67,.lit (.int .i64 z.1))],z.2⟩:St))
    (fun z=>z.1≤P.length∧Keep os z.2∧z.2[ti]?=some (.arr 2 (rowsOf eNm ps))∧(accV (P.take z.1) (0,false)).2=false)
    (fun z=>P.length - z.1) (0,ob) ⟨Nat.zero_le _,hkp,fti,rfl⟩ (Xv (X3 @List.take_zero.{0} @accV.eq_1 @List.foldl_nil.{0,0})) ?_
  clear hkp fti
  rintro ⟨j,ob⟩ ⟨hj,hkp,fti,hacc⟩ Ql hnl hel
  dsimp only at hj hkp fti hacc ⊢
  have hkl:=hkp.len
  have hPps:ps.length=P.length:=by rw[hps,List.length_map]
  by_cases hj':j<P.length
  · have htk:=take_snoc hj'
    have hsn:=accV_snoc (P.take j) (P.getD j default) (0,false)
    rw[← htk,hacc,Bool.false_or] at hsn
    have hgt:ps.getD j default=ptN (P.getD j default):=by rw[hps,map_getD _ _ _ hj']
    have hrg:=accV_rg (P.take j) (0,false) (fun p hp=>hPr p (List.mem_of_mem_take hp))
    rw[List.length_take,Nat.min_eq_left hj] at hrg
    have hrq:=hPr _ (getD_mem (d:=default) hj')
    have hmemj:=getD_mem (l:=P) (d:=default) hj'
    unfold BIG at hrg hrq
    dsimp only at hrg
    generalize (accV (P.take j) (0,false)).1=s at *
    generalize P.getD j default=q at *
    obtain ⟨v,b⟩:=q
    unfold ptN at hgt
    dsimp only at hgt hsn hrq
    have eti:=oLo fti
    cases b
    · have hany:(accV P (0,false)).2=true:=(accV_any P 0).2 ⟨_,hmemj,rfl⟩
      repeat' (first|(refine Xr (X5 @fti @eti @hgt @eNm.eq_1 (X2 @Oc2 @Bool.not_false)) ?_;intro K hK)|refine Xo (X5 @fti @eti @hgt @eNm.eq_1 (X2 @Oc2 @Bool.not_false)) ?_|(refine hK _ ?_;clear hK K)|(refine Xg (X5 @fti @eti @hgt @eNm.eq_1 (X2 @Oc2 @Bool.not_false)) ?_ ?_<;>try intro hb)|(refine Xi ?_ ?_<;>try intro ht)|refine Xz ?_|refine Xe ?_|refine Xd ?_ ?_|omega|with_reducible rfl|exact trivial)
      all_goals try (exfalso;omega)
      repeat (first|refine Xu ?_|(refine hel2 _ _ rfl ?_;clear hnl2 hel2;try clear Ql2)|(refine hel3 _ _ rfl ?_;clear hnl3 hel3;try clear Ql3)|(refine hel4 _ _ rfl ?_;clear hnl4 hel4;try clear Ql4))
      repeat' (first|(refine Xr X0 ?_;intro K hK)|refine Xo X0 ?_|(refine hK _ ?_;clear hK K)|(refine Xg X0 ?_ ?_<;>try intro hb)|(refine Xi ?_ ?_<;>try intro ht)|refine Xz ?_|refine Xh ?_|refine Xe ?_|refine Xd ?_ ?_|omega|with_reducible rfl|exact trivial)
      unfold retR
      simp only[resW,retV]
      simp (disch:=omega) only[Ac,↓Pc,simprocAttr]
      rw[if_pos hany]
      exact⟨_,_,⟨rfl,by rw[List.length_append];omega⟩,RetOK_all rfl (by rw[List.length_append];omega) rfl⟩
    · repeat' (first|(refine Xr (X5 @fti @eti @hgt @eNm.eq_1 (X2 @Oc2 @Bool.not_true)) ?_;intro K hK)|refine Xo (X5 @fti @eti @hgt @eNm.eq_1 (X2 @Oc2 @Bool.not_true)) ?_|(refine hK _ ?_;clear hK K)|(refine Xg (X5 @fti @eti @hgt @eNm.eq_1 (X2 @Oc2 @Bool.not_true)) ?_ ?_<;>try intro hb)|(refine Xi ?_ ?_<;>try intro ht)|refine Xz ?_|refine Xe ?_|refine Xd ?_ ?_|omega|with_reducible rfl|exact trivial)
      all_goals try (exfalso;omega)
      refine hnl _ (j+1,_) ⟨by dsimp only;omega,hkp.app [.var (eNm (v,false))],eti _,by rw[hsn];rfl⟩ (by dsimp only;omega) ?_
      simp only[hsn]
      exact Xv @eNm.eq_1
  · rw[List.take_of_length_le (by omega)] at hacc
    have hnany:¬ (accV P (0,false)).2=true:=by rw[hacc];simp
    repeat' (first|(refine Xr (List.take_of_length_le (show P.length≤j by omega)) ?_;intro K hK)|refine Xo (List.take_of_length_le (show P.length≤j by omega)) ?_|(refine hK _ ?_;clear hK K)|(refine Xg (List.take_of_length_le (show P.length≤j by omega)) ?_ ?_<;>try intro hb)|(refine Xi ?_ ?_<;>try intro ht)|refine Xz ?_|refine Xe ?_|refine Xd ?_ ?_|omega|with_reducible rfl|exact trivial)
    refine hel _ _ rfl ?_;clear hnl hel Ql
    repeat (first|refine Xu ?_)
    repeat' (first|(refine Xr X0 ?_;intro K hK)|refine Xo X0 ?_|(refine hK _ ?_;clear hK K)|(refine Xg X0 ?_ ?_<;>try intro hb)|(refine Xi ?_ ?_<;>try intro ht)|refine Xz ?_|refine Xh ?_|refine Xe ?_|refine Xd ?_ ?_|omega|with_reducible rfl|exact trivial)
    unfold retR
    simp only[resW,retV]
    simp (disch:=omega) only[Ac,↓Pc,simprocAttr]
    rw[if_neg hnany]
    exact⟨_,ob,⟨rfl,hkl⟩,RetOK_all rfl hkl rfl⟩
end T

