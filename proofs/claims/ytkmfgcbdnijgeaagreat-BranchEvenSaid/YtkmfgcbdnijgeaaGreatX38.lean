import Derived.Test.YtkmfgcbdnijgeaaGreatX28
import Derived.Test.YtkmfgcbdnijgeaaGreatX37
set_option linter.unusedVariables false
set_option linter.unusedSimpArgs false
set_option linter.unnecessarySimpa false
set_option linter.unusedSectionVars false
set_option maxHeartbeats 64000000
set_option maxRecDepth 20000
open Go Go.Am Go.Proofs
open Nat (reduceEqDiff reduceAdd reduceLeDiff reduceMul)
open Int (reduceNeg reduceLE reduceToNat)
namespace T
theorem eqtC:EqT Tryz.prog 140 2:=EqT.of 4 (by kernel_rfl)
theorem eqgC:Tryz.prog.eqGuardType Tryz.prog.depth 140=false:=by kernel_rfl
theorem indexCh_ok (l:List (Int × Int)) (c o:Int) (hl:l.length<9223372036854775808):Holds Tryz.prog 128 [.tree 2 (rowsOf eCh l),.agg [.lit (.int .i64 c),.lit (.int .i64 o)]] [] (.lit (.int .i64 (idxL (isC c o) 0 l))) []:=by
  generalize hres:idxL (isC c o) 0 l=res
  refine Holds.of_body' (fn:=Tryz.f128) 19 0 [.tmp 4] Tryz.func128 rfl rfl rfl rfl rfl (by simp) ?_
  refine Vb X0 ?_
  refine W_loopS (fun k:Nat=>(⟨slots [(0,.tree 2 (rowsOf eCh l)),(3,.ptr 0 0 0),(7,.lit (.int .i64 l.length)),(8,.lit (.int .i64 k))],[.var [.lit (.int .i64 c),.lit (.int .i64 o)]]⟩:St)) (fun k=>k≤l.length∧idxL (isC c o) k (l.drop k)=res) (fun k=>l.length - k) 0 ⟨Nat.zero_le _,hres⟩ (Xv X0) ?_
  rintro k ⟨hk,hr⟩ Ql hnl hel
  by_cases hk':k<l.length
  · have hd:=getD_drop0 l k default hk'
    generalize hxx:l.getD k default=x at *
    rw[hd,idxL] at hr
    obtain ⟨x1,x2⟩:=x
    unfold isC at hr
    ((repeat' (first|refine Va (X2 @hxx @eCh.eq_1) ?_|(refine Xi ?_ ?_<;>try intro ht)|refine VD ?_ ?_|exact Xx|fail)))
    · exact eqtC
    · exact eqgC
    · simp only[List.cons.injEq,and_true] at ht
      rw[if_pos (by rw[decide_eq_true_eq,ht.1,ht.2])] at hr
      repeat (refine Xu ?_)
      refine Vb X0 ?_
      exact RetOK_pure' rfl (by rw[← hr])
    · simp only[List.cons.injEq,and_true] at ht
      rw[if_neg (by rw[decide_eq_true_eq,Prod.mk.injEq];exact fun h=>ht ⟨h.1.symm,h.2.symm⟩)] at hr
      exact hnl _ (k+1) ⟨by omega,hr⟩ (by omega) (Xv X0)
  · ((repeat' (first|refine Va X0 ?_|(refine Xi ?_ ?_<;>try intro ht)|exact Xx|fail)))
    rw[List.drop_eq_nil_of_le (by omega),idxL] at hr
    refine hel _ _ rfl ?_;clear hnl hel Ql
    repeat (refine Xu ?_)
    refine Vb X0 ?_
    exact RetOK_pure' rfl (by rw[← hr])
theorem containsCh_ok (l:List (Int × Int)) (c o:Int) (hl:l.length<9223372036854775808):Holds Tryz.prog 88 [.tree 2 (rowsOf eCh l),.agg [.lit (.int .i64 c),.lit (.int .i64 o)]] [] (.lit (.bool (l.any (isC c o)))) []:=by
  rw[← idxL_any (isC c o) l 0]
  refine Holds.of_body' (fn:=Tryz.f88) 9 0 [.tmp 4] Tryz.func88 rfl rfl rfl rfl rfl (by simp) ?_
  refine Vd X0 (indexCh_ok l c o hl) ?_
  exact RetOK_pure' rfl rfl
theorem clash1_ok (m:Mdl) (a x b y:Int) (hm:VM m) (ha:optB m a x=true) (hb0:optB m b y=true) (p:Pr) (hp:p∈m.prs) :
    Holds Tryz.prog 145 [.agg (ePr p),.ptr 1 0 0,.ptr 2 0 0,.ptr 0 0 0] [.var (eMdl m),.var [.lit (.int .i64 a),.lit (.int .i64 x)],.var [.lit (.int .i64 b),.lit (.int .i64 y)]] (.lit (.bool (clP m a x b y p))) [.var (eMdl m),.var [.lit (.int .i64 a),.lit (.int .i64 x)],.var [.lit (.int .i64 b),.lit (.int .i64 y)]]:=by
  obtain ⟨a1,a2,a3,a4⟩:=optB_iff.1 ha
  obtain ⟨b1,b2,b3,b4⟩:=optB_iff.1 hb0
  have hpb:=prsL_mem hm.pr _ hp
  obtain ⟨q1,q2,q3,q4,q5⟩:=pairB_iff hpb
  have hl1:=hm.opt _ (getD_mem (l:=m.cls) (i:=a.toNat) (d:=default) (by omega))
  have hl2:=hm.opt _ (getD_mem (l:=m.cls) (i:=b.toNat) (d:=default) (by omega))
  have hc24:=hm.cls
  generalize hres:clP m a x b y p=res
  unfold clP entryV at hres
  obtain ⟨fs,sn,ru,tab⟩:=p
  dsimp only at *
  by_cases hp2:fs=a∧sn=b
  · obtain ⟨rfl,rfl⟩:=hp2
    generalize hA:m.cls.getD fs.toNat default=A at *
    generalize hB:m.cls.getD sn.toNat default=B at *
    obtain ⟨e1,e2,e3⟩:=entry_idx ⟨a3,a4⟩ ⟨b3,b4⟩ (by omega) (by omega)
    generalize hix:x * (B.length:Int)=ix at *
    have hA2:((A.length * B.length:Nat):Int)=A.length * B.length:=by simp
    generalize hv:tab.getD (ix+y).toNat 0=v at *
    refine Holds.of_body' (fn:=Tryz.f145) 38 3 [.tmp 5] Tryz.func145 rfl rfl rfl rfl rfl (by simp) ?_
    by_cases h3:v=1099511627776
    · rw[decide_eq_true ⟨rfl,rfl,h3⟩] at hres
      refine Vb (X5 @ePr.eq_1 @hB @eCls.eq_1 @hix @hv) ?_
      all_goals (subst hres;subst h3;exact Xw false [0,1,2] X0)
    · rw[decide_eq_false (fun h=>h3 h.2.2)] at hres
      refine Vb (X5 @ePr.eq_1 @hB @eCls.eq_1 @hix @hv) ?_
      all_goals (subst hres;rw[show (v == 1099511627776)=false by simpa using h3];exact Xw false [0,1,2] X0)
  · refine Holds.of_body' (fn:=Tryz.f145) 38 3 [.tmp 5] Tryz.func145 rfl rfl rfl rfl rfl (by simp) ?_
    rw[decide_eq_false (fun h=>hp2 ⟨h.1,h.2.1⟩)] at hres
    ((repeat' (first|refine Vb @ePr.eq_1 ?_|(refine V2 @ePr.eq_1 ?_ ?_<;>try with_reducible intro hb)|exact Xx|fail)))
    all_goals (subst hres;exact Xw false [0,1,2] X0)
theorem pclash_ok (m:Mdl) (a x b y:Int) (hm:VM m) (ha:optB m a x=true) (hb0:optB m b y=true) :
    Holds Tryz.prog 127 [.agg (eMdl m),.agg [.lit (.int .i64 a),.lit (.int .i64 x)],.agg [.lit (.int .i64 b),.lit (.int .i64 y)]] [] (.lit (.bool (clV m a x b y))) []:=by
  have hm2:=hm.prs
  unfold clV
  by_cases h:b<a
  · rw[if_pos h]
    have hc:=containsPr_ok m.prs 145 [.ptr 1 0 0,.ptr 2 0 0,.ptr 0 0 0] [.var (eMdl m),.var [.lit (.int .i64 b),.lit (.int .i64 y)],.var [.lit (.int .i64 a),.lit (.int .i64 x)]] (clP m b y a x) (by omega) (fun p hp=>clash1_ok m b y a x hm hb0 ha p hp)
    generalize m.prs.any (clP m b y a x)=res at *
    refine Holds.of_body' (fn:=Tryz.f127) 18 0 [.tmp 6] Tryz.func127 rfl rfl rfl rfl rfl (by simp) ?_
    ((repeat' (first|refine Vb X0 ?_|(refine Xi ?_ ?_<;>try intro ht)|exact Xx|fail))<;>try with_reducible intro K hK)
    refine callK_all hc (by simp) ?_
    ((try revert hK K);(refine Vb X0 ?_))
    exact RetOK_pure' rfl rfl
  · rw[if_neg h]
    have hc:=containsPr_ok m.prs 145 [.ptr 1 0 0,.ptr 2 0 0,.ptr 0 0 0] [.var (eMdl m),.var [.lit (.int .i64 a),.lit (.int .i64 x)],.var [.lit (.int .i64 b),.lit (.int .i64 y)]] (clP m a x b y) (by omega) (fun p hp=>clash1_ok m a x b y hm ha hb0 p hp)
    generalize m.prs.any (clP m a x b y)=res at *
    refine Holds.of_body' (fn:=Tryz.f127) 18 0 [.tmp 6] Tryz.func127 rfl rfl rfl rfl rfl (by simp) ?_
    ((repeat' (first|refine Vb X0 ?_|(refine Xi ?_ ?_<;>try intro ht)|exact Xx|fail))<;>try with_reducible intro K hK)
    refine callK_all hc (by simp) ?_
    ((try revert hK K);(refine Vb X0 ?_))
    exact RetOK_pure' rfl rfl
theorem cell_ok (m:Mdl) (g:List Int) (l:List (Int × Int)) (hm:VM m) (hg:∀ c∈g,0≤c∧c<m.cls.length) (hgl:g.length<9223372036854775808) (hll:l.length<9223372036854775808) :
    Holds Tryz.prog 86 [.agg (eMdl m),.tree 1 (ints g),.tree 2 (rowsOf eCh l)] [] (.lit (.bool (cellB m g l))) []:=by
  have hc24:=hm.cls
  generalize hres:cellB m g l=res
  unfold cellB at hres
  refine Holds.of_body' (fn:=Tryz.f86) 62 0 [.tmp 6] Tryz.func86 rfl rfl rfl rfl rfl (by simp) ?_
  refine Vb X0 ?_
  refine W_loopS (fun i:Nat=>(⟨slots [(1,.tree 1 (ints g)),(2,.tree 2 (rowsOf eCh l)),(3,.ptr 0 0 0),(11,.tree 2 (rowsOf eCh l)),(12,.lit (.int .i64 l.length)),(13,.lit (.int .i64 i))],[.var (eMdl m)]⟩:St))
    (fun i=>i≤l.length∧∀ a,a<i→cellF m g l a=true) (fun i=>l.length - i) 0 ⟨Nat.zero_le _,fun a ha=>absurd ha (Nat.not_lt_zero _)⟩ (Xv X0) ?_
  rintro i ⟨hi,hop⟩ Ql hnl hel
  by_cases hi':i<l.length
  · have hts:=take_snoc hi'
    have hbad:=range_false (f:=cellF m g l) hi'
    rw[hres] at hbad
    have hop2:∀ b∈l.take i,optB m b.1 b.2=true:=fun b hb=>by
      obtain ⟨a,ha,rfl⟩:=List.getElem_of_mem hb
      rw[List.length_take] at ha
      have:=hop a (by omega)
      unfold cellF at this
      simp only[Bool.and_eq_true] at this
      rw[List.getElem_take]
      rw[List.getD_eq_getElem?_getD,List.getElem?_eq_getElem (by omega)] at this
      exact this.1.2
    have hgo:cellF m g l i=true→∀ a,a<i+1→cellF m g l a=true:=fun h a ha=>by
      by_cases e:a=i
      · subst e;exact h
      · exact hop a (by omega)
    unfold cellF at hbad hgo
    have htr:(rowsOf eCh l).take i=rowsOf eCh (l.take i):=by unfold rowsOf;rw[List.map_take]
    have htl:(l.take i).length=i:=by rw[List.length_take];omega
    generalize hxx:l.getD i default=x at *
    obtain ⟨c,o⟩:=x
    dsimp only at hbad hgo
    have hcn:=containsN_ok g c hgl
    have hgc:g.contains c=true→0≤c∧c<m.cls.length:=fun h=>hg c (List.contains_iff_mem.1 h)
    have hol:=fun h=>hm.opt _ (getD_mem (l:=m.cls) (i:=c.toNat) (d:=default) h)
    have hoi:=@optB_iff m c o
    generalize hA:m.cls.getD c.toNat default=A at *
    by_cases hin:g.contains c=true
    rotate_left
    · rw[Bool.not_eq_true] at hin
      rw[hin] at hbad hcn
      have hr:=hbad (by simp)
      ((repeat' (first|refine Vc (X2 @hxx @eCh.eq_1) hcn ?_|(refine Xi ?_ ?_<;>try intro ht)|exact Xx|fail)))
      all_goals
        repeat (refine Xu ?_)
        refine Vb X0 ?_
        exact RetOK_pure' rfl (by rw[hr])
    obtain ⟨hc1,hc2⟩:=hgc hin
    have hol:=hol (by omega)
    rw[hin] at hcn hbad
    by_cases hopt:optB m c o=true
    rotate_left
    · have hno:¬(0≤c∧c<m.cls.length∧0≤o∧o<A.length):=fun h=>hopt (hoi.2 h)
      rw[Bool.not_eq_true] at hopt
      rw[hopt] at hbad
      have hr:=hbad (by simp)
      repeat' (first|((fail_if_success (first|refine W_at 6 ?_|refine W_atE 6 ?_));refine Xq (X4 @hxx @eCh.eq_1 @hA @eCls.eq_1) ?_;intro K hK)|refine Xo (X4 @hxx @eCh.eq_1 @hA @eCls.eq_1) ?_|refine Xc (hcn) ?_|(refine hK _ ?_;clear hK K)|(refine Xg (X4 @hxx @eCh.eq_1 @hA @eCls.eq_1) ?_ ?_<;>try intro hb)|(refine Xi ?_ ?_<;>try intro ht)|refine Xy ?_|refine Xd ?_ ?_|exact Xx|fail)
      all_goals
        repeat (refine Xu ?_)
        ((repeat' (first|refine Vb X0 ?_|fail)))
        exact RetOK_pure' rfl (by rw[hr])
    obtain ⟨o1,o2,o3,o4⟩:=hoi.1 hopt
    rw[hopt,Bool.true_and,Bool.true_and] at hbad
    rw[hin,hopt,Bool.true_and,Bool.true_and] at hgo
    ((repeat' (first|refine Vc (X5 @hxx @eCh.eq_1 @hA @eCls.eq_1 (X4 @htr @htl @Option.map_none.{0,0} @implies_true.{0})) hcn ?_|(refine V2 (X5 @hxx @eCh.eq_1 @hA @eCls.eq_1 (X4 @htr @htl @Option.map_none.{0,0} @implies_true.{0})) ?_ ?_<;>try with_reducible intro hb)|(refine Xi ?_ ?_<;>try intro ht)|exact Xx|fail)))
    refine W_loopS (fun j:Nat=>(⟨slots [(1,.tree 1 (ints g)),(2,.tree 2 (rowsOf eCh l)),(3,.ptr 0 0 0),(8,.ptr 1 0 0),(11,.tree 2 (rowsOf eCh l)),(12,.lit (.int .i64 l.length)),(13,.lit (.int .i64 i)),(42,.tree 2 (rowsOf eCh (l.take i))),(43,.lit (.int .i64 i)),(44,.lit (.int .i64 j))],[.var (eMdl m),.var [.lit (.int .i64 c),.lit (.int .i64 o)]]⟩:St))
      (fun j=>j≤i∧∀ a,a<j→apB m (c,o) ((l.take i).getD a default)=true) (fun j=>i - j) 0 ⟨Nat.zero_le _,fun a ha=>absurd ha (Nat.not_lt_zero _)⟩ (Xv X0) ?_
    rintro j ⟨hj,hap⟩ Ql2 hnl2 hel2
    by_cases hj':j<i
    · have hmem:=getD_mem (l:=l.take i) (i:=j) (d:=default) (by omega)
      have hob:=hop2 _ hmem
      have hgo2:apB m (c,o) ((l.take i).getD j default)=true→∀ a,a<j+1→apB m (c,o) ((l.take i).getD a default)=true:=fun h a ha=>by
        by_cases e:a=j
        · subst e;exact h
        · exact hap a (by omega)
      have hbad2:=fun h=>hbad (all_false hmem h)
      generalize hyy:(l.take i).getD j default=y at *
      obtain ⟨b,u⟩:=y
      unfold apB at hbad2 hgo2
      dsimp only at hob hbad2 hgo2
      have hcl:=pclash_ok m c o b u hm hopt hob
      generalize clV m c o b u=cl at *
      by_cases hcb:c=b
      · ((repeat' (first|refine Va (X3 @hyy @htl @eCh.eq_1) ?_|(refine V2 (X3 @hyy @htl @eCh.eq_1) ?_ ?_<;>try with_reducible intro hb)|(refine Xi ?_ ?_<;>try intro ht)|exact Xx|fail)))
        exact hnl2 _ (j+1) ⟨by omega,hgo2 (by rw[decide_eq_true hcb];rfl)⟩ (by omega) (Xs false [0,1] X0)
      · rw[decide_eq_false hcb,Bool.false_or] at hbad2
        cases cl
        · have hr:=hbad2 rfl
          ((repeat' (first|refine Vc (X3 @hyy @htl @eCh.eq_1) hcl ?_|(refine V2 (X3 @hyy @htl @eCh.eq_1) ?_ ?_<;>try with_reducible intro hb)|(refine Xi ?_ ?_<;>try intro ht)|exact Xx|fail)))
          all_goals
            repeat (refine Xu ?_)
            refine Vb X0 ?_
            exact RetOK_pure' rfl (by rw[hr])
        · ((repeat' (first|refine Vc (X4 @hyy @htl @eCh.eq_1 @Bool.not_true) hcl ?_|(refine V2 (X4 @hyy @htl @eCh.eq_1 @Bool.not_true) ?_ ?_<;>try with_reducible intro hb)|(refine Xi ?_ ?_<;>try intro ht)|exact Xx|fail)))
          exact hnl2 _ (j+1) ⟨by omega,hgo2 (by rw[Bool.or_true])⟩ (by omega) (Xs false [0,1] X0)
    · obtain rfl:j=i:=by omega
      ((repeat' (first|refine Va X0 ?_|(refine V2 X0 ?_ ?_<;>try with_reducible intro hb)|(refine Xi ?_ ?_<;>try intro ht)|exact Xx|fail)))
      refine hel2 _ _ rfl ?_
      clear hnl2 hel2 Ql2
      repeat (refine Xu ?_)
      refine Va X0 ?_
      refine hnl _ (j+1) ⟨by omega,hgo ?_⟩ (by omega) (Xs false [0] X0)
      rw[List.all_eq_true]
      intro b hb
      obtain ⟨a,ha,rfl⟩:=List.getElem_of_mem hb
      have:=hap a (by omega)
      rwa [List.getD_eq_getElem?_getD,List.getElem?_eq_getElem ha] at this
  · obtain rfl:i=l.length:=by omega
    rw[all_range.2 hop] at hres
    ((repeat' (first|refine Va X0 ?_|(refine Xi ?_ ?_<;>try intro ht)|exact Xx|fail)))
    refine hel _ _ rfl ?_;clear hnl hel Ql
    repeat (refine Xu ?_)
    refine Vb X0 ?_
    exact RetOK_pure' rfl (by rw[← hres])
end T

