import Derived.Test.YtkmfgcbdnijgeaaGreatX23
import Derived.Test.YtkmfgcbdnijgeaaGreatX14
set_option linter.unusedVariables false
set_option linter.unusedSimpArgs false
set_option linter.unnecessarySimpa false
set_option linter.unusedSectionVars false
set_option maxHeartbeats 64000000
set_option maxRecDepth 20000
open Go Go.Am Go.Proofs
open Nat (reduceEqDiff reduceAdd reduceLeDiff reduceMul)
open Int (reduceNeg reduceLE reduceToNat)
namespace T
theorem class_ok {m:Mdl} {gi ai bi:Nat} {D E:List (Nat × Nat)} {S T:List (List Nm)} {os:List Ob} (h:LO eNm (GB m gi ai bi D E) D E S T os) (x:Mv) (hx:0≤x.pair∧x.pair<m.prs.length) (hp4:m.prs.length≤4000) :
    Holds Tryz.prog 131 [.ptr gi 0 0,.agg (eMv x)] os (.lit (.int .i64 (mvC m x))) (os++[.var (eMv x)]):=by
  obtain ⟨fg,fa,fb⟩:=GBf h
  have eg:=oLo fg
  generalize hres:mvC m x=res
  unfold mvC at hres
  refine Holds.of_body' (fn:=Tryz.f131) 28 os.length [.tmp 4] Tryz.func131 rfl rfl rfl rfl rfl (by simp) ?_
  by_cases hs:x.side=0
  · rw[if_pos hs] at hres
    generalize hpp:m.prs.getD x.pair.toNat default=p at *
    ((repeat' (first|refine Vb (X5 @fg @eg @gC.eq_1 @Oc2 (X3 @hpp @eMv.eq_1 @ePr.eq_1)) ?_|(refine Xi ?_ ?_<;>try intro ht)|exact Xx|fail)))
    exact RetOK_all rfl (by simp) (by rw[hres])
  · rw[if_neg hs] at hres
    generalize hpp:m.prs.getD x.pair.toNat default=p at *
    ((repeat' (first|refine Vb (X5 @fg @eg @gC.eq_1 @Oc2 (X3 @hpp @eMv.eq_1 @ePr.eq_1)) ?_|(refine Xi ?_ ?_<;>try intro ht)|exact Xx|fail)))
    exact RetOK_all rfl (by simp) (by rw[hres])
theorem addM_ok {os:List Ob} {id r:Nat} {row:List Nm} (h:os[id]?=some (.arr 2 (rowsOf eNm row))) (hr:r<row.length) (n:Int) (hn1:In64 ((row.getD r default).1+n)) :
    Holds Tryz.prog 132 [.ptr id r 0,.lit (.int .i64 n)] os (.tup []) (os.set id (.arr 2 (rowsOf eNm (addR row r n)))):=by
  unfold In64 at hn1
  refine Holds.of_body' (fn:=Tryz.f132) 12 os.length [] Tryz.func132 rfl rfl rfl rfl rfl (by simp) ?_
  refine Vb (X3 @h @eNm.eq_1 @eNm_set) ?_
  exact RetOK_all rfl (by simp) rfl
theorem mvC_in {m:Mdl} (hm:VM m) {x:Mv} (h1:0≤x.pair) (h2:x.pair<m.prs.length):0≤mvC m x∧mvC m x<m.cls.length:=by
  obtain ⟨a,b,c,_⟩:=pairB_in (prsL_mem hm.pr _ (getD_mem (l:=m.prs) (i:=x.pair.toNat) (d:=default) (by omega)))
  unfold mvC
  split<;>omega
theorem validM_ok {m:Mdl} (hm:VM m) {gi ai bi:Nat} {D E:List (Nat × Nat)} {S T:List (List Nm)} {os:List Ob} (h:LO eNm (GB m gi ai bi D E) D E S T os) {B:Int} (hg:LG m B (S,T)) (x:Mv) :
    HoldsR Tryz.prog 90 [.ptr gi 0 0,.agg (eMv x)] os fun r ob=>r=.lit (.bool (mvB m x))∧∃ l,ob=os++l:=by
  obtain ⟨fg,fa,fb⟩:=GBf h
  have eg:=oLo fg
  have ea:=oLo fa
  have hE:=h.rE.len
  have hD:=h.rD.len
  have hs1:S.length=m.cls.length:=hg.s
  have ht1:T.length=m.prs.length:=hg.t
  have hp4:=hm.prs
  have hc4:=hm.cls
  generalize hres:mvB m x=res
  unfold mvB at hres
  refine HoldsR.of_body' (fn:=Tryz.f90) 56 os.length [.tmp 4] Tryz.func90 rfl rfl rfl rfl rfl (by simp) ?_
  by_cases hr:0≤x.pair∧x.pair<m.prs.length∧0≤x.side∧x.side≤1∧-268435456≤x.amt∧x.amt≤268435456
  · rw[decide_eq_true hr,Bool.true_and] at hres
    have hcl:=class_ok (h.app [.gone]) x ⟨hr.1,hr.2.1⟩ hp4
    have eb:=oLo fb
    ((repeat' (first|refine Vb (X5 @fg @eg @fb @eb (X3 @gC.eq_1 @Oc2 @eMv.eq_1)) ?_|(refine V2 (X5 @fg @eg @fb @eb (X3 @gC.eq_1 @Oc2 @eMv.eq_1)) ?_ ?_<;>try with_reducible intro hb)|(refine Xi ?_ ?_<;>try intro ht)|exact Xx|fail)))
    refine W_turn (Turns.frzP 3 os.length (cells:=eMv x) (by rw[oL0];rfl) (by simp only[Kc,simprocAttr]) (by simp[eMv])) ?_
    refine W_turn (σ':=⟨slots [(0,.ptr gi 0 0),(3,.taddr (eMv x))],os++[.gone]⟩) (by rw[oS0];exact Xv @eMv.eq_1) ?_
    obtain ⟨c1,c2⟩:=mvC_in hm hr.1 hr.2.1
    obtain ⟨rD1,rD2⟩:=h.rD.row (mvC m x).toNat (by omega)
    have qd:=oLo rD1
    have hsl:=hg.sl (mvC m x).toNat (by omega)
    have ho24:=hm.opt _ (getD_mem (l:=m.cls) (i:=(mvC m x).toNat) (d:=default) (by omega))
    generalize hmc:mvC m x=c at *
    obtain ⟨bo,hd⟩ :∃b,decide (x.opt ≥ 0)=b:=⟨_,rfl⟩
    cases bo
    all_goals
      have hop:=hd
      simp only[decide_eq_true_eq,decide_eq_false_iff_not] at hop
      have hres3:res=(decide (0≤x.opt) && decide (x.opt<((D.getD c.toNat default).2:Int))):=by
        rw[← hres,Bool.eq_iff_iff,Bool.and_eq_true,decide_eq_true_eq,decide_eq_true_eq,optB_iff]
        dsimp only at hsl
        omega
      refine W_draw [1,5,11] (.take 0 (.take 1 (.take 2 (.take 3 (.take 6 (.take 10 (.take 11 (.three 4 (.take 5 (.both 7 (.both 8 (.both 9 (.take 12 (.take 13 (.take 14 (.take 15 (.take 16 (.take 17 (.take 18 .nil))))))) 12 (.take 9 (.take 13 (.take 14 (.take 15 (.take 16 (.take 17 (.take 18 .nil)))))))) 12 (.take 8 (.take 9 (.take 13 (.take 14 (.take 15 (.take 16 (.take 17 (.take 18 .nil))))))))) 12 (.take 7 (.take 8 (.take 9 (.take 13 (.take 14 (.take 15 (.take 16 (.take 17 (.take 18 .nil))))))))))) 7 (.three 4 (.take 5 (.both 8 (.both 9 (.take 12 (.take 13 (.take 14 (.take 15 (.take 16 (.take 17 (.take 18 .nil))))))) 12 (.take 9 (.take 13 (.take 14 (.take 15 (.take 16 (.take 17 (.take 18 .nil)))))))) 12 (.take 8 (.take 9 (.take 13 (.take 14 (.take 15 (.take 16 (.take 17 (.take 18 .nil)))))))))) 8 (.three 4 (.take 5 (.both 9 (.take 12 (.take 13 (.take 14 (.take 15 (.take 16 (.take 17 (.take 18 .nil))))))) 12 (.take 9 (.take 13 (.take 14 (.take 15 (.take 16 (.take 17 (.take 18 .nil))))))))) 9 (.both 4 (.take 5 (.take 12 (.take 13 (.take 14 (.take 15 (.take 16 (.take 17 (.take 18 .nil)))))))) 12 (.take 4 (.take 5 (.take 13 (.take 14 (.take 15 (.take 16 (.take 17 (.take 18 .nil))))))))) 12 (.take 4 (.take 5 (.take 9 (.take 13 (.take 14 (.take 15 (.take 16 (.take 17 (.take 18 .nil)))))))))) 12 (.take 4 (.take 5 (.take 8 (.take 9 (.take 13 (.take 14 (.take 15 (.take 16 (.take 17 (.take 18 .nil))))))))))) 12 (.take 4 (.take 5 (.take 7 (.take 8 (.take 9 (.take 13 (.take 14 (.take 15 (.take 16 (.take 17 (.take 18 .nil))))))))))))))))))) rfl (by decide) (by decide +kernel) ?_
      simp (disch:=omega) only[Ac,↓Pc,simprocAttr,planW_three,planW_both,planW_take,planW_nil,stepAt,↓Lq,fg,eg,fa,ea,gC,eRf,Oc2,qd,rD1,eMv,hd]
      repeat' (first|with_reducible refine And.intro ?_ ?_|omega|(refine callK_all hcl (by simp) ?_;simp (disch:=omega) only[Ac,↓Pc,simprocAttr,planW_three,planW_both,planW_take,planW_nil,stepAt,↓Lq,fg,eg,fa,ea,gC,eRf,Oc2,qd,rD1,eMv,hd,List.append_assoc]))
      all_goals
        repeat (refine Xu ?_)
        ((repeat' (first|refine Vb X0 ?_|fail)))
        unfold retR
        simp only[resW,retV]
        simp (disch:=omega) only[Ac,↓Pc,simprocAttr]
        refine⟨.lit (.bool res),_,⟨rfl,_,rfl⟩,RetOK_all rfl (by simp) ?_⟩
        rw[hres3]
        first|rfl|(rw[decide_eq_true hop,Bool.true_and])|(rw[decide_eq_false hop,Bool.false_and])
  · rw[decide_eq_false hr,Bool.false_and] at hres
    have eb:=oLo fb
    ((repeat' (first|refine Vb (X5 @fg @eg @fb @eb (X3 @gC.eq_1 @Oc2 @eMv.eq_1)) ?_|(refine V2 (X5 @fg @eg @fb @eb (X3 @gC.eq_1 @Oc2 @eMv.eq_1)) ?_ ?_<;>try with_reducible intro hb)|(refine Xi ?_ ?_<;>try intro ht)|exact Xx|fail)))
    all_goals
      unfold retR
      simp only[resW,retV]
      simp (disch:=omega) only[Ac,↓Pc,simprocAttr]
      exact⟨.lit (.bool res),_,⟨rfl,_,rfl⟩,RetOK_all rfl (by simp) (by rw[← hres])⟩
end T

