import Derived.Test.YtkmfgcbdnijgeaaGreatX38
import Derived.Test.YtkmfgcbdnijgeaaGreatX21
set_option linter.unusedVariables false
set_option linter.unusedSimpArgs false
set_option linter.unnecessarySimpa false
set_option linter.unusedSectionVars false
set_option maxHeartbeats 64000000
set_option maxRecDepth 20000
open Go Go.Am Go.Proofs
open Nat (reduceEqDiff reduceAdd reduceLeDiff reduceMul)
open Int (reduceNeg reduceLE reduceToNat)
namespace T
theorem crowded1_ok (m:Mdl) (x:Nd) (hm:VM m) (hg:∀ c∈x.grp,0≤c∧c<m.cls.length) (hgl:x.grp.length<9223372036854775808) (l:List (Int × Int)) (hll:l.length<9223372036854775808) :
    Holds Tryz.prog 85 [.tree 2 (rowsOf eCh l),.ptr 0 0 0,.ptr 1 0 0] [.var (eMdl m),.var (eNd x)] (.lit (.bool (!cellB m x.grp l))) [.var (eMdl m),.var (eNd x)]:=by
  have h:=cell_ok m x.grp l hm hg hgl hll
  generalize cellB m x.grp l=res at *
  refine Holds.of_body' (fn:=Tryz.f85) 11 2 [.tmp 4] Tryz.func85 rfl rfl rfl rfl rfl (by simp) ?_
  refine Vd @eNd.eq_1 h ?_
  exact RetOK_all rfl (by simp) rfl
theorem crowded2_ok (m:Mdl) (x:Nd) (c o:Int) (l:List (Int × Int)) (hll:l.length<9223372036854775808) :
    Holds Tryz.prog 87 [.tree 2 (rowsOf eCh l),.ptr 2 0 0,.ptr 3 0 0] [.var (eMdl m),.var (eNd x),.var [.lit (.int .i64 c)],.var [.lit (.int .i64 o)]] (.lit (.bool (l.any (isC c o)))) [.var (eMdl m),.var (eNd x),.var [.lit (.int .i64 c)],.var [.lit (.int .i64 o)]]:=by
  have h:=containsCh_ok l c o hll
  generalize l.any (isC c o)=res at *
  refine Holds.of_body' (fn:=Tryz.f87) 10 4 [.tmp 4] Tryz.func87 rfl rfl rfl rfl rfl (by simp) ?_
  refine Vd X0 h ?_
  exact RetOK_all rfl (by simp) rfl
theorem crowded_ok (m:Mdl) (x:Nd) (left:List (List Bool)) (hm:VM m) (hf:FitsP m left) (hgl:x.grp.length<9223372036854775808) (hcl:x.cells.length<9223372036854775808) (hll:∀ l∈x.cells,l.length<9223372036854775808) :
    Holds Tryz.prog 50 [.agg (eMdl m),.agg (eNd x),.tree 1 (rowsOf eBs left)] [] (.lit (.bool (crowdedB m x left))) []:=by
  have hc24:=hm.cls
  have hfl:=hf.1
  generalize hres:crowdedB m x left=res
  have hc1:=@crowded_cut1 m x left
  have hc2:=@crowded_cut2 m x left
  have hc3:=@crowded_cut3 m x left
  have hc4:=@crowded_cut4 m x left
  have hct:=@crowded_true m x left
  rw[hres] at hc1 hc2 hc3 hc4 hct
  obtain ⟨cl,kids,mvs,grp,cells⟩:=x
  dsimp only at *
  refine Holds.of_body' (fn:=Tryz.f50) 87 0 [.tmp 6] Tryz.func50 rfl rfl rfl rfl rfl (by simp) ?_
  refine Vb @eNd.eq_1 ?_
  refine W_loopS (fun i:Nat=>(⟨slots [(2,.tree 1 (rowsOf eBs left)),(3,.ptr 0 0 0),(4,.ptr 1 0 0),(15,.tree 1 (ints grp)),(16,.lit (.int .i64 grp.length)),(17,.lit (.int .i64 i))],[.var (eMdl m),.var (eNd ⟨cl,kids,mvs,grp,cells⟩)]⟩:St))
    (fun i=>i≤grp.length∧∀ a,a<i→decide (0≤grp.getD a 0∧grp.getD a 0<m.cls.length∧(a=0∨grp.getD (a - 1) 0<grp.getD a 0))=true) (fun i=>grp.length - i) 0 ⟨Nat.zero_le _,fun a ha=>absurd ha (Nat.not_lt_zero _)⟩ (Xv @eNd.eq_1) ?_
  rintro i ⟨hi,hall⟩ Ql hnl hel
  by_cases hi':i<grp.length
  · have hbad:=range_false (f:=fun i=>decide (0≤grp.getD i 0∧grp.getD i 0<m.cls.length∧(i=0∨grp.getD (i - 1) 0<grp.getD i 0))) hi'
    have hgo:decide (0≤grp.getD i 0∧grp.getD i 0<m.cls.length∧(i=0∨grp.getD (i - 1) 0<grp.getD i 0))=true→∀ a,a<i+1→decide (0≤grp.getD a 0∧grp.getD a 0<m.cls.length∧(a=0∨grp.getD (a - 1) 0<grp.getD a 0))=true:=fun h a ha=>by
      by_cases e:a=i
      · subst e;exact h
      · exact hall a (by omega)
    have hpr:0<i→((i:Int) - 1).toNat=i - 1∧i - 1<grp.length:=fun h=>⟨by omega,by omega⟩
    have hix:0<i→grp.getD ((i:Int) - 1).toNat 0=grp.getD (i - 1) 0:=fun h=>by rw[(hpr h).1]
    generalize hcc:grp.getD i 0=c at *
    generalize hqq:grp.getD (i - 1) 0=q at *
    have hfin:c=c:=rfl
    rcases Nat.eq_zero_or_pos i with h0 | h0
    · by_cases hok:0≤c∧c<m.cls.length
      · ((repeat' (first|refine Va (X2 @eNd.eq_1 @hcc) ?_|(refine V2 (X2 @eNd.eq_1 @hcc) ?_ ?_<;>try with_reducible intro hb)|(refine Xi ?_ ?_<;>try intro ht)|exact Xx|fail)))
        exact hnl _ (i+1) ⟨by omega,hgo (decide_eq_true ⟨hok.1,hok.2,.inl h0⟩)⟩ (by omega) (Xv @eNd.eq_1)
      · have hr:=hc1 (hbad (decide_eq_false fun h=>hok ⟨h.1,h.2.1⟩))
        ((repeat' (first|refine Va (X2 @eNd.eq_1 @hcc) ?_|(refine V2 (X2 @eNd.eq_1 @hcc) ?_ ?_<;>try with_reducible intro hb)|(refine Xi ?_ ?_<;>try intro ht)|exact Xx|fail)))
        all_goals
          repeat (refine Xu ?_)
          ((repeat' (first|refine Vb X0 ?_|fail)))
          exact RetOK_pure' rfl (by rw[hr])
    · have hix:=hix h0
      obtain ⟨hp1,hp2⟩:=hpr h0
      by_cases hok:0≤c∧c<m.cls.length∧q<c
      · ((repeat' (first|refine Va (X3 @eNd.eq_1 @hcc @hix) ?_|(refine V2 (X3 @eNd.eq_1 @hcc @hix) ?_ ?_<;>try with_reducible intro hb)|(refine Xi ?_ ?_<;>try intro ht)|exact Xx|fail)))
        exact hnl _ (i+1) ⟨by omega,hgo (decide_eq_true ⟨hok.1,hok.2.1,.inr hok.2.2⟩)⟩ (by omega) (Xv @eNd.eq_1)
      · have hr:=hc1 (hbad (decide_eq_false fun h=>hok ⟨h.1,h.2.1,by omega⟩))
        ((repeat' (first|refine Va (X3 @eNd.eq_1 @hcc @hix) ?_|(refine V2 (X3 @eNd.eq_1 @hcc @hix) ?_ ?_<;>try with_reducible intro hb)|(refine Xi ?_ ?_<;>try intro ht)|exact Xx|fail)))
        all_goals
          repeat (refine Xu ?_)
          ((repeat' (first|refine Vb X0 ?_|fail)))
          exact RetOK_pure' rfl (by rw[hr])
  obtain rfl:i=grp.length:=by omega
  have hgr:grB m grp=true:=all_range.2 hall
  have hgm:=gr_mem hgr
  clear hc1 hall
  ((repeat' (first|refine Va X0 ?_|(refine V2 X0 ?_ ?_<;>try with_reducible intro hb)|(refine Xi ?_ ?_<;>try intro ht)|exact Xx|fail)))
  refine hel _ _ rfl ?_;clear hnl hel Ql
  repeat (refine Xu ?_)
  have hcon:=containsCell_ok cells 85 [.ptr 0 0 0,.ptr 1 0 0] [.var (eMdl m),.var (eNd ⟨cl,kids,mvs,grp,cells⟩)] (fun l=>!cellB m grp l) hcl (fun l hl=>crowded1_ok m ⟨cl,kids,mvs,grp,cells⟩ hm hgm hgl l (hll l hl))
  rw[any_not] at hcon
  by_cases hlt:cells.length<grp.length
  rotate_left
  · have hr:=hc2 hlt
    ((repeat' (first|refine Vb @eNd.eq_1 ?_|(refine V2 @eNd.eq_1 ?_ ?_<;>try with_reducible intro hb)|(refine Xi ?_ ?_<;>try intro ht)|exact Xx|fail)))
    exact RetOK_pure' rfl (by rw[hr])
  cases hal:cells.all (cellB m grp)
  · have hr:=hc3 hal
    rw[hal] at hcon
    ((repeat' (first|refine Vb @eNd.eq_1 ?_|(refine V2 @eNd.eq_1 ?_ ?_<;>try with_reducible intro hb)|(refine Xi ?_ ?_<;>try intro ht)|exact Xx|fail))<;>try with_reducible intro K hK)
    refine callK_all hcon (by simp) ?_
    ((try revert hK K);(repeat' (first|refine Vb (X2 @eNd.eq_1 @Bool.not_false) ?_|(refine Xi ?_ ?_<;>try intro ht)|exact Xx|fail)))
    exact RetOK_pure' rfl (by rw[hr])
  rw[hal] at hcon
  have hct:=hct hgr hlt hal
  clear hc2 hc3
  ((repeat' (first|refine Vb @eNd.eq_1 ?_|(refine V2 @eNd.eq_1 ?_ ?_<;>try with_reducible intro hb)|(refine Xi ?_ ?_<;>try intro ht)|exact Xx|fail))<;>try with_reducible intro K hK)
  refine callK_all hcon (by simp) ?_
  ((try revert hK K);(repeat' (first|refine Vb (X2 @eNd.eq_1 @Bool.not_true) ?_|(refine Xi ?_ ?_<;>try intro ht)|exact Xx|fail)))
  refine W_loopS (fun i:Nat=>(⟨slots [(2,.tree 1 (rowsOf eBs left)),(3,.ptr 0 0 0),(4,.ptr 1 0 0),(60,.tree 1 (ints grp)),(61,.lit (.int .i64 grp.length)),(62,.lit (.int .i64 i))],[.var (eMdl m),.var (eNd ⟨cl,kids,mvs,grp,cells⟩)]⟩:St))
    (fun i=>i≤grp.length∧∀ a,a<i→covB left cells (grp.getD a 0)=true) (fun i=>grp.length - i) 0 ⟨Nat.zero_le _,fun a ha=>absurd ha (Nat.not_lt_zero _)⟩ (Xv @eNd.eq_1) ?_
  rintro i ⟨hi,hall⟩ Ql hnl hel
  by_cases hi':i<grp.length
  · have hmem:=getD_mem (l:=grp) (i:=i) (d:=0) hi'
    have hbad:=fun h=>hc4 (all_false hmem h)
    have hcr:=hgm _ hmem
    have hgo:covB left cells (grp.getD i 0)=true→∀ a,a<i+1→covB left cells (grp.getD a 0)=true:=fun h a ha=>by
      by_cases e:a=i
      · subst e;exact h
      · exact hall a (by omega)
    generalize hcc:grp.getD i 0=c at *
    have hr24:=hf.row hm _ (getD_mem (l:=left) (i:=c.toNat) (d:=default) (by omega))
    unfold covB at hbad hgo
    generalize hrr:left.getD c.toNat default=row at *
    ((repeat' (first|refine Va (X4 @eNd.eq_1 @hcc @eBs.eq_1 @hrr) ?_|(refine Xi ?_ ?_<;>try intro ht)|exact Xx|fail)))
    refine W_loopS (fun o:Nat=>(⟨slots [(2,.tree 1 (rowsOf eBs left)),(3,.ptr 0 0 0),(4,.ptr 1 0 0),(10,.ptr 2 0 0),(60,.tree 1 (ints grp)),(61,.lit (.int .i64 grp.length)),(62,.lit (.int .i64 i)),(69,.tree 1 (bools row)),(70,.lit (.int .i64 row.length)),(71,.lit (.int .i64 o))],[.var (eMdl m),.var (eNd ⟨cl,kids,mvs,grp,cells⟩),.var [.lit (.int .i64 c)]]⟩:St))
      (fun o=>o≤row.length∧∀ a,a<o→(!row.getD a false || cells.any fun l=>l.any (isC c a))=true) (fun o=>row.length - o) 0 ⟨Nat.zero_le _,fun a ha=>absurd ha (Nat.not_lt_zero _)⟩ (Xv @eNd.eq_1) ?_
    rintro o ⟨ho,hao⟩ Ql2 hnl2 hel2
    by_cases ho':o<row.length
    · have hbad2:=fun h=>hbad (range_false (f:=fun o:Nat=>!row.getD o false || cells.any fun l=>l.any (isC c o)) ho' h)
      have hgo2:(!row.getD o false || cells.any fun l=>l.any (isC c o))=true→∀ a,a<o+1→(!row.getD a false || cells.any fun l=>l.any (isC c a))=true:=fun h a ha=>by
        by_cases e:a=o
        · subst e;exact h
        · exact hao a (by omega)
      have hcon2:=containsCell_ok cells 87 [.ptr 2 0 0,.ptr 3 0 0] [.var (eMdl m),.var (eNd ⟨cl,kids,mvs,grp,cells⟩),.var [.lit (.int .i64 c)],.var [.lit (.int .i64 (o:Int))]] (fun l=>l.any (isC c o)) hcl (fun l hl=>crowded2_ok m ⟨cl,kids,mvs,grp,cells⟩ c o l (hll l hl))
      generalize hbb:row.getD o false=b at *
      generalize cells.any (fun l=>l.any (isC c o))=cov at *
      cases b
      · ((repeat' (first|refine Va (X2 @eNd.eq_1 @hbb) ?_|(refine Xi ?_ ?_<;>try intro ht)|exact Xx|fail)))
        exact hnl2 _ (o+1) ⟨by omega,hgo2 rfl⟩ (by omega) (Xs false [0,1,2] @eNd.eq_1)
      · cases cov
        · have hr:=hbad2 rfl
          ((repeat' (first|refine Va (X2 @eNd.eq_1 @hbb) ?_|(refine Xi ?_ ?_<;>try intro ht)|exact Xx|fail))<;>try with_reducible intro K hK)
          refine callK_all hcon2 (by simp) ?_
          ((try revert hK K);(repeat' (first|refine Va (X2 @eNd.eq_1 @Bool.not_false) ?_|(refine Xi ?_ ?_<;>try intro ht)|exact Xx|fail)))
          all_goals
            repeat (refine Xu ?_)
            refine Vb X0 ?_
            exact RetOK_pure' rfl (by rw[hr])
        · ((repeat' (first|refine Va (X2 @eNd.eq_1 @hbb) ?_|(refine Xi ?_ ?_<;>try intro ht)|exact Xx|fail))<;>try with_reducible intro K hK)
          refine callK_all hcon2 (by simp) ?_
          ((try revert hK K);(repeat' (first|refine Va (X2 @eNd.eq_1 @Bool.not_true) ?_|(refine Xi ?_ ?_<;>try intro ht)|exact Xx|fail)))
          exact hnl2 _ (o+1) ⟨by omega,hgo2 rfl⟩ (by omega) (Xs false [0,1,2] @eNd.eq_1)
    · obtain rfl:o=row.length:=by omega
      ((repeat' (first|refine Va @eNd.eq_1 ?_|(refine V2 @eNd.eq_1 ?_ ?_<;>try with_reducible intro hb)|(refine Xi ?_ ?_<;>try intro ht)|exact Xx|fail)))
      refine hel2 _ _ rfl ?_
      clear hnl2 hel2 Ql2
      repeat (refine Xu ?_)
      refine Va @eNd.eq_1 ?_
      exact hnl _ (i+1) ⟨by omega,hgo (all_range.2 hao)⟩ (by omega) (Xs false [0,1] @eNd.eq_1)
  · obtain rfl:i=grp.length:=by omega
    have hr:=hct (by
      rw[List.all_eq_true]
      intro c hc
      obtain ⟨a,ha,rfl⟩:=List.getElem_of_mem hc
      have:=hall a ha
      rwa [List.getD_eq_getElem?_getD,List.getElem?_eq_getElem ha] at this)
    ((repeat' (first|refine Va X0 ?_|(refine Xi ?_ ?_<;>try intro ht)|exact Xx|fail)))
    refine hel _ _ rfl ?_;clear hnl hel Ql
    repeat (refine Xu ?_)
    refine Vb X0 ?_
    exact RetOK_pure' rfl (by rw[hr])
end T

