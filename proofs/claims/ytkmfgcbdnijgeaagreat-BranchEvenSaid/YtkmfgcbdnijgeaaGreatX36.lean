import Derived.Test.YtkmfgcbdnijgeaaGreatX28
import Derived.Test.YtkmfgcbdnijgeaaGreatX12
set_option linter.unusedVariables false
set_option linter.unusedSimpArgs false
set_option linter.unnecessarySimpa false
set_option linter.unusedSectionVars false
set_option maxHeartbeats 64000000
set_option maxRecDepth 20000
open Go Go.Am Go.Proofs
open Nat (reduceEqDiff reduceAdd reduceLeDiff reduceMul)
open Int (reduceNeg reduceLE reduceToNat)
namespace T
theorem shaped1_ok (n:Int):Holds Tryz.prog 123 [.lit (.int .i64 n)] [] (.lit (.bool (n != 1))) []:=by
  refine Holds.of_body' (fn:=Tryz.f123) 5 0 [.tmp 2] Tryz.func123 rfl rfl rfl rfl rfl (by simp) ?_
  refine Vb X0 ?_
  exact RetOK_pure' rfl rfl
theorem shaped_ok (m:Mdl) (P:List Nd) (hm:VM m) (hP:PB P):Holds Tryz.prog 80 [.agg (eMdl m),.agg (ePf P)] [] (.lit (.bool (shapedB m P))) []:=by
  have hp0:=hP.nds
  have hc24:=hm.cls
  generalize hres:shapedB m P=res
  refine Holds.of_body' (fn:=Tryz.f80) 136 0 [.tmp 4] Tryz.func80 rfl rfl rfl rfl rfl (by simp) ?_
  by_cases hsz:1≤P.length∧P.length≤20000
  rotate_left
  · rw[shaped_size hsz] at hres
    subst hres
    ((repeat' (first|refine Vb @ePf.eq_1 ?_|(refine V2 @ePf.eq_1 ?_ ?_<;>try with_reducible intro hb)|(refine Xi ?_ ?_<;>try intro ht)|exact Xx|fail)))
    all_goals exact RetOK_pure' rfl rfl
  obtain ⟨hs1,hs2⟩:=hsz
  ((repeat' (first|refine Vb @ePf.eq_1 ?_|(refine V2 @ePf.eq_1 ?_ ?_<;>try with_reducible intro hb)|(refine Xi ?_ ?_<;>try intro ht)|exact Xx|fail)))
  refine W_loopS (fun i:Nat=>(⟨slots [(2,.ptr 0 0 0),(3,.ptr 1 0 0),(5,.ref 2 1 0 P.length),(25,.tree 5 (rowsOf eNd P)),(26,.lit (.int .i64 P.length)),(27,.lit (.int .i64 i))],[.var (eMdl m),.var (ePf P),.arr 1 (ints (parV P.length (allK (P.take i))))]⟩:St))
    (fun i=>i≤P.length∧∀ a,a<i→nodeB m P.length a (P.getD a default)=true) (fun i=>P.length - i) 0 ⟨Nat.zero_le _,fun a ha=>absurd ha (Nat.not_lt_zero _)⟩ (by rw[List.take_zero];show Turns _ _ ⟨_,[_,_,.arr 1 (ints (parV P.length []))]⟩;rw[parV_nil];exact Xv (X2 @ePf.eq_1 @ints_rep)) ?_
  rintro i ⟨hi,hall⟩ Ql hnl hel
  by_cases hi':i<P.length
  · have hmem:=getD_mem (l:=P) (i:=i) (d:=default) hi'
    have b1:=hP.kids _ hmem
    have b2:=hP.mvs _ hmem
    have b3:=hP.grp _ hmem
    have b4:=hP.cells _ hmem
    have hts:=take_snoc hi'
    have hak:∀ l,allK (P.take (i+1))=allK (P.take i)++l↔l=(P.getD i default).kids:=fun l=>by rw[hts,allK_snoc];exact⟨fun h=>(List.append_cancel_left h).symm,fun h=>by rw[h]⟩
    have hbad:=shaped_bad (m:=m) hi'
    have hlen:=allK_len (n:=0) hm (P.take i) fun y hy=>by
      obtain ⟨a,ha,rfl⟩:=List.getElem_of_mem hy
      rw[List.length_take] at ha
      have:=hall a (by omega)
      unfold nodeB at this
      rw[Bool.and_eq_true,List.getD_eq_getElem?_getD,List.getElem?_eq_getElem (by omega)] at this
      simpa using this.1
    rw[List.length_take] at hlen
    generalize hxx:P.getD i default=x at *
    obtain ⟨c,kids,mvs,grp,cells⟩:=x
    dsimp only at b1 b2 b3 b4 hak
    have hak:=(hak _).2 rfl
    have hnd:¬(ndB m ⟨c,kids,mvs,grp,cells⟩=true)→res=false:=fun h=>by
      rw[← hres]
      refine hbad ?_
      unfold nodeB
      rw[Bool.eq_false_iff.2 h,Bool.false_and]
    have hkb:∀ j,j<kids.length→¬(kidB P.length i (kids.getD j 0)=true)→res=false:=fun j hj h=>by
      rw[← hres]
      refine hbad ?_
      unfold nodeB
      have:kids.all (kidB P.length i)=false:=by
        rw[Bool.eq_false_iff]
        intro h2
        rw[List.all_eq_true] at h2
        exact h (h2 _ (getD_mem hj))
      dsimp only
      rw[this,Bool.and_false]
    clear hbad
    generalize hww:m.cls.getD c.toNat default=wl at *
    have hwl:0≤c∧c<m.cls.length→wl.length≤24:=fun h=>by rw[← hww];exact hm.opt _ (getD_mem (by omega))
    by_cases hndb:ndB m ⟨c,kids,mvs,grp,cells⟩=true
    rotate_left
    · have hr:=hnd hndb
      unfold ndB at hndb
      dsimp only at hndb
      rw[hww] at hndb
      by_cases hcn:c = -1
      · rw[if_pos hcn,decide_eq_true_eq] at hndb
        ((repeat' (first|refine Va (X3 @ePf.eq_1 @hxx @eNd.eq_1) ?_|(refine V2 (X3 @ePf.eq_1 @hxx @eNd.eq_1) ?_ ?_<;>try with_reducible intro hb)|(refine Xi ?_ ?_<;>try intro ht)|exact Xx|fail)))
        all_goals
          repeat (refine Xu ?_)
          ((repeat' (first|refine Vb X0 ?_|fail)))
          exact RetOK_pure' rfl (by rw[hr])
      · rw[if_neg hcn,decide_eq_true_eq] at hndb
        by_cases hok:0≤c∧c<m.cls.length
        · have hwl:=hwl hok
          ((repeat' (first|refine Va (X5 @ePf.eq_1 @hxx @eNd.eq_1 @hww @eCls.eq_1) ?_|(refine V2 (X5 @ePf.eq_1 @hxx @eNd.eq_1 @hww @eCls.eq_1) ?_ ?_<;>try with_reducible intro hb)|(refine Xi ?_ ?_<;>try intro ht)|exact Xx|fail)))
          all_goals
            repeat (refine Xu ?_)
            ((repeat' (first|refine Vb X0 ?_|fail)))
            exact RetOK_pure' rfl (by rw[hr])
        · ((repeat' (first|refine Va (X3 @ePf.eq_1 @hxx @eNd.eq_1) ?_|(refine V2 (X3 @ePf.eq_1 @hxx @eNd.eq_1) ?_ ?_<;>try with_reducible intro hb)|(refine Xi ?_ ?_<;>try intro ht)|exact Xx|fail)))
          all_goals
            repeat (refine Xu ?_)
            ((repeat' (first|refine Vb X0 ?_|fail)))
            exact RetOK_pure' rfl (by rw[hr])
    have hk24:=ndB_kids hm hndb
    have hnode:(∀ j,j<kids.length→kidB P.length i (kids.getD j 0)=true)→nodeB m P.length i ⟨c,kids,mvs,grp,cells⟩=true:=fun h=>by
      unfold nodeB
      rw[hndb,Bool.true_and,List.all_eq_true]
      intro k hk
      obtain ⟨j,hj,rfl⟩:=List.getElem_of_mem hk
      have:=h j hj
      rwa [List.getD_eq_getElem?_getD,List.getElem?_eq_getElem hj] at this
    dsimp only at hk24
    repeat' (first|((fail_if_success (first|refine W_at 7 ?_|refine W_atE 7 ?_));refine Xr (X3 @ePf.eq_1 @hxx @eNd.eq_1) ?_;intro K hK)|(refine hK _ ?_;clear hK K)|(refine Xi ?_ ?_<;>try intro ht)|refine Xy ?_|refine Xd ?_ ?_|exact Xx|fail)
    (refine unSqB ?_);intro Q0 hn0 he0
    refine join_here ⟨slots [(2,.ptr 0 0 0),(3,.ptr 1 0 0),(5,.ref 2 1 0 P.length),(6,.lit (.int .i64 i)),(7,.ptr 3 0 0),(25,.tree 5 (rowsOf eNd P)),(26,.lit (.int .i64 P.length)),(27,.lit (.int .i64 i))],[.var (eMdl m),.var (ePf P),.arr 1 (ints (parV P.length (allK (P.take i)))),.var (eNd ⟨c,kids,mvs,grp,cells⟩)]⟩ hn0 ?_ (fun key=>?_)
    rotate_left
    · (try clear hn0)
      unfold ndB at hndb
      dsimp only at hndb
      rw[hww] at hndb
      by_cases hcn:c = -1
      · rw[if_pos hcn,decide_eq_true_eq] at hndb
        ((repeat' (first|refine Va (X3 @ePf.eq_1 @hxx @eNd.eq_1) ?_|(refine V2 (X3 @ePf.eq_1 @hxx @eNd.eq_1) ?_ ?_<;>try with_reducible intro hb)|(refine Xi ?_ ?_<;>try intro ht)|exact Xx|fail)))
        all_goals
          refine key _ ?_
          exact Xv (X2 @ePf.eq_1 @eNd.eq_1)
      · rw[if_neg hcn,decide_eq_true_eq] at hndb
        have hwl:=hwl ⟨hndb.1,hndb.2.1⟩
        ((repeat' (first|refine Va (X5 @ePf.eq_1 @hxx @eNd.eq_1 @hww @eCls.eq_1) ?_|(refine V2 (X5 @ePf.eq_1 @hxx @eNd.eq_1 @hww @eCls.eq_1) ?_ ?_<;>try with_reducible intro hb)|(refine Xi ?_ ?_<;>try intro ht)|exact Xx|fail)))
        all_goals
          refine key _ ?_
          exact Xv (X2 @ePf.eq_1 @eNd.eq_1)
    (try clear hn0;try clear he0)
    refine Va (X2 @ePf.eq_1 @eNd.eq_1) ?_
    refine W_loopS (fun j:Nat=>(⟨slots [(2,.ptr 0 0 0),(3,.ptr 1 0 0),(5,.ref 2 1 0 P.length),(6,.lit (.int .i64 i)),(25,.tree 5 (rowsOf eNd P)),(26,.lit (.int .i64 P.length)),(27,.lit (.int .i64 i)),(108,.tree 1 (ints kids)),(109,.lit (.int .i64 kids.length)),(110,.lit (.int .i64 j))],[.var (eMdl m),.var (ePf P),.arr 1 (ints (parV P.length (allK (P.take i)++kids.take j)))]⟩:St))
      (fun j=>j≤kids.length∧∀ a,a<j→kidB P.length i (kids.getD a 0)=true) (fun j=>kids.length - j) 0 ⟨Nat.zero_le _,fun a ha=>absurd ha (Nat.not_lt_zero _)⟩ (by rw[List.take_zero,List.append_nil];exact Xs false [0,1,2] @ePf.eq_1) ?_
    rintro j ⟨hj,hkb2⟩ Ql2 hnl2 hel2
    by_cases hj':j<kids.length
    · have htk:=take_snoc hj'
      have hkd:kids.getD j default=kids.getD j 0:=rfl
      have hkb1:=hkb j hj'
      rw[hkd] at htk
      have hln:(allK (P.take i)++kids.take j).length≤24 * P.length+24:=by rw[List.length_append,List.length_take];omega
      generalize hkk:kids.getD j 0=k at *
      by_cases hkB:kidB P.length i k=true
      rotate_left
      · have hr:=hkb1 hkB
        unfold kidB at hkB
        rw[decide_eq_true_eq] at hkB
        ((repeat' (first|refine Va (X2 @ePf.eq_1 @hkk) ?_|(refine V2 (X2 @ePf.eq_1 @hkk) ?_ ?_<;>try with_reducible intro hb)|(refine Xi ?_ ?_<;>try intro ht)|exact Xx|fail)))
        all_goals
          repeat (refine Xu ?_)
          ((repeat' (first|refine Vb X0 ?_|fail)))
          exact RetOK_pure' rfl (by rw[hr])
      have hkB2:=hkB
      unfold kidB at hkB2
      rw[decide_eq_true_eq] at hkB2
      have hpc:=pc_le (n:=P.length) (l:=allK (P.take i)++kids.take j) (j:=k.toNat) (by omega)
      have hpl:=parV_len P.length (allK (P.take i)++kids.take j)
      have hsn:=parV_snoc P.length (allK (P.take i)++kids.take j) k.toNat (by omega)
      rw[Int.toNat_of_nonneg (by omega),List.append_assoc,← htk] at hsn
      ((repeat' (first|refine Va (X3 @ePf.eq_1 @hkk @hpl) ?_|(refine V2 (X3 @ePf.eq_1 @hkk @hpl) ?_ ?_<;>try with_reducible intro hb)|(refine Xi ?_ ?_<;>try intro ht)|exact Xx|fail)))
      refine hnl2 _ (j+1) ⟨by omega,fun a ha=>?_⟩ (by omega) (by rw[hsn];exact Xv @ePf.eq_1)
      by_cases e:a=j
      · subst e;rw[hkk];exact hkB
      · exact hkb2 a (by omega)
    · obtain rfl:j=kids.length:=by omega
      rw[List.take_length,← hak]
      ((repeat' (first|refine Va X0 ?_|(refine V2 X0 ?_ ?_<;>try with_reducible intro hb)|(refine Xi ?_ ?_<;>try intro ht)|exact Xx|fail)))
      refine hel2 _ _ rfl ?_
      clear hnl2 hel2 Ql2
      repeat (refine Xu ?_)
      refine Va X0 ?_
      refine hnl _ (i+1) ⟨by omega,fun a ha=>?_⟩ (by omega) (Xv @ePf.eq_1)
      by_cases e:a=i
      · subst e;rw[hxx];exact hnode hkb2
      · exact hall a (by omega)
  · obtain rfl:i=P.length:=by omega
    rw[List.take_length]
    have hfin:=shaped_end (m:=m) ⟨hs1,hs2⟩ hall
    rw[hres] at hfin
    have hcon:=containsInt_ok ((parV P.length (allK P)).drop 1) 123 [] [] (fun x=>x != 1) (by rw[List.length_drop,parV_len];omega) (fun x _=>shaped1_ok x)
    have hpl:=parV_len P.length (allK P)
    have hdr:(ints (parV P.length (allK P))).drop 1=ints ((parV P.length (allK P)).drop 1):=by unfold ints;rw[List.map_drop]
    have hdl:((parV P.length (allK P)).drop 1).length=P.length - 1:=by rw[List.length_drop,parV_len]
    ((repeat' (first|refine Va X0 ?_|(refine Xi ?_ ?_<;>try intro ht)|exact Xx|fail)))
    refine hel _ _ rfl ?_;clear hnl hel Ql
    repeat (refine Xu ?_)
    generalize parV P.length (allK P)=pc at *
    refine W_turn (σ':=⟨slots [(5,.tree 1 (ints pc))],[]⟩) (by rw[← hpl];exact Xs true [] X0) ?_
    ((repeat' (first|refine Vd (X4 @hpl @hdr @hdl @Option.map_none.{0,0}) hcon ?_|refine VD ?_ ?_|fail)))
    · intro _;trivial
    exact RetOK_pure' rfl (by rw[hfin])
end T

