import Derived.Test.YtkmfgcbdnijgeaaGreatX33
set_option linter.unusedVariables false
set_option linter.unusedSimpArgs false
set_option linter.unnecessarySimpa false
set_option linter.unusedSectionVars false
set_option maxHeartbeats 64000000
set_option maxRecDepth 20000
open Go Go.Am Go.Proofs
open Nat (reduceEqDiff reduceAdd reduceLeDiff reduceMul)
open Int (reduceNeg reduceLE reduceToNat)
namespace T
theorem lgt_rg {l:List Ld} (hw:∀ x∈l,1≤x.wt∧x.wt≤1000) (c:Int) (row:List Bool):0≤lgt l c row∧lgt l c row≤1000:=by
  have h:∀ (l:List Ld) (z:Int × Int),(∀ x∈l,1≤x.wt∧x.wt≤1000)→z.2≤1000→(lgtL c row l z).2≤1000:=by
    intro l
    induction l with
    | nil=>intro z _ h;exact h
    | cons x r ih =>
      intro z h1 h2
      rw[lgtL]
      refine ih _ (fun y hy=>h1 y (by simp[hy])) ?_
      have:=h1 x (by simp)
      split
      · dsimp only;split<;>omega
      · exact h2
  have:=h l (manyB row 0,-1) hw (by dsimp only;omega)
  unfold lgt
  split<;>omega
theorem prLight_ok (c:Ct) (k:Int) (row:List Bool) (hr24:row.length≤24) (hld:∀ x∈c.loads,x.cls=k→0≤x.opt∧x.opt<row.length) (hl:c.loads.length≤576) :
    Holds Tryz.prog 142 [.agg (eCt c),.lit (.int .i64 k),.tree 1 (bools row)] [] (.lit (.int .i64 (lgt c.loads k row))) []:=by
  generalize hres:lgt c.loads k row=res
  unfold lgt at hres
  refine Holds.of_body' (fn:=Tryz.f142) 61 0 [.tmp 6] Tryz.func142 rfl rfl rfl rfl rfl (by simp) ?_
  refine Vb @eCt.eq_1 ?_
  generalize hM:manyB row 0=M at *
  refine W_loopS (fun z:Nat × Int=>(⟨slots [(1,.lit (.int .i64 k)),(2,.tree 1 (bools row)),(3,.ptr 0 0 0),(7,.lit (.int .i64 z.2)),(8,.lit (.int .i64 (-1))),(13,.tree 1 (bools row)),(14,.lit (.int .i64 row.length)),(15,.lit (.int .i64 z.1))],[.var (eCt c)]⟩:St))
    (fun z=>z.1≤row.length∧0≤z.2∧z.2≤z.1∧manyB (row.drop z.1) z.2=M) (fun z=>row.length - z.1) (0,0) ⟨Nat.zero_le _,Int.le_refl _,Int.le_refl _,hM⟩ (Xv @eCt.eq_1) ?_
  rintro ⟨i,n⟩ ⟨hi,hn0,hn1,hr⟩ Ql hnl hel
  dsimp only at hi hn0 hn1 hr ⊢
  by_cases hi':i<row.length
  · have hd:=getD_drop0 row i false hi'
    generalize haa:row.getD i false=a at *
    rw[hd,manyB] at hr
    cases a
    · rw[if_neg (by simp)] at hr
      ((repeat' (first|refine Va @haa ?_|(refine Xi ?_ ?_<;>try intro ht)|exact Xx|fail)))
      all_goals exact hnl _ (i+1,n) ⟨by dsimp only;omega,hn0,by dsimp only;omega,hr⟩ (by dsimp only;omega) (Xv X0)
    · rw[if_pos rfl] at hr
      ((repeat' (first|refine Va @haa ?_|(refine Xi ?_ ?_<;>try intro ht)|exact Xx|fail)))
      all_goals exact hnl _ (i+1,n+1) ⟨by dsimp only;omega,by dsimp only;omega,by dsimp only;omega,hr⟩ (by dsimp only;omega) (Xv X0)
  rw[List.drop_eq_nil_of_le (by omega),manyB] at hr
  subst hr
  ((repeat' (first|refine Va X0 ?_|(refine Xi ?_ ?_<;>try intro ht)|exact Xx|fail)))
  refine hel _ _ rfl ?_;clear hnl hel Ql
  repeat (refine Xu ?_)
  refine Va @eCt.eq_1 ?_
  generalize hZ:lgtL k row c.loads (n,-1)=Z at *
  refine W_loopS (fun z:Nat × Int × Int=>(⟨slots [(1,.lit (.int .i64 k)),(2,.tree 1 (bools row)),(7,.lit (.int .i64 z.2.1)),(8,.lit (.int .i64 z.2.2)),(24,.tree 3 (rowsOf eLd c.loads)),(25,.lit (.int .i64 c.loads.length)),(26,.lit (.int .i64 z.1))],[]⟩:St))
    (fun z=>z.1≤c.loads.length∧-(z.1:Int)≤z.2.1∧z.2.1≤24∧lgtL k row (c.loads.drop z.1) z.2=Z) (fun z=>c.loads.length - z.1) (0,n,-1) ⟨Nat.zero_le _,by dsimp only;omega,by dsimp only;omega,hZ⟩ (Xs false [] X0) ?_
  rintro ⟨j,y,w⟩ ⟨hj,hy0,hy1,hr⟩ Ql hnl hel
  dsimp only at hj hy0 hy1 hr ⊢
  by_cases hj':j<c.loads.length
  · have hd:=getD_drop0 c.loads j default hj'
    have hm:=hld _ (getD_mem (d:=default) hj')
    generalize hxx:c.loads.getD j default=x at *
    rw[hd,lgtL] at hr
    by_cases hc:x.cls=k
    · have hm:=hm hc
      generalize hbb:row.getD x.opt.toNat false=b at *
      cases b
      · rw[if_neg (by simp)] at hr
        ((repeat' (first|refine Va (X3 @hxx @eLd.eq_1 @hbb) ?_|(refine V2 (X3 @hxx @eLd.eq_1 @hbb) ?_ ?_<;>try with_reducible intro hb)|(refine Xi ?_ ?_<;>try intro ht)|exact Xx|fail)))
        all_goals exact hnl _ (j+1,y,w) ⟨by dsimp only;omega,by dsimp only;omega,hy1,hr⟩ (by dsimp only;omega) (Xs false [] X0)
      · rw[if_pos ⟨hc,rfl⟩] at hr
        by_cases hw:w<0∨x.wt<w
        · rw[if_pos hw] at hr
          ((repeat' (first|refine Va (X3 @hxx @eLd.eq_1 @hbb) ?_|(refine V2 (X3 @hxx @eLd.eq_1 @hbb) ?_ ?_<;>try with_reducible intro hb)|(refine Xi ?_ ?_<;>try intro ht)|exact Xx|fail)))
          all_goals exact hnl _ (j+1,y - 1,x.wt) ⟨by dsimp only;omega,by dsimp only;omega,by dsimp only;omega,hr⟩ (by dsimp only;omega) (Xs false [] X0)
        · rw[if_neg hw] at hr
          ((repeat' (first|refine Va (X3 @hxx @eLd.eq_1 @hbb) ?_|(refine V2 (X3 @hxx @eLd.eq_1 @hbb) ?_ ?_<;>try with_reducible intro hb)|(refine Xi ?_ ?_<;>try intro ht)|exact Xx|fail)))
          all_goals exact hnl _ (j+1,y - 1,w) ⟨by dsimp only;omega,by dsimp only;omega,by dsimp only;omega,hr⟩ (by dsimp only;omega) (Xs false [] X0)
    · rw[if_neg (fun h=>hc h.1)] at hr
      ((repeat' (first|refine Va (X2 @hxx @eLd.eq_1) ?_|(refine V2 (X2 @hxx @eLd.eq_1) ?_ ?_<;>try with_reducible intro hb)|(refine Xi ?_ ?_<;>try intro ht)|exact Xx|fail)))
      all_goals exact hnl _ (j+1,y,w) ⟨by dsimp only;omega,by dsimp only;omega,hy1,hr⟩ (by dsimp only;omega) (Xs false [] X0)
  rw[List.drop_eq_nil_of_le (by omega),lgtL] at hr
  rw[← hr] at hres
  dsimp only at hres
  by_cases he:0<y∨w<0
  · rw[if_pos he] at hres
    ((repeat' (first|refine Va X0 ?_|(refine V2 X0 ?_ ?_<;>try with_reducible intro hb)|(refine Xi ?_ ?_<;>try intro ht)|exact Xx|fail)))
    refine hel _ _ rfl ?_;clear hnl hel Ql
    repeat (refine Xu ?_)
    ((repeat' (first|refine Vb X0 ?_|(refine V2 X0 ?_ ?_<;>try with_reducible intro hb)|(refine Xi ?_ ?_<;>try intro ht)|exact Xx|fail)))
    all_goals exact RetOK_pure' rfl (by rw[hres])
  · rw[if_neg he] at hres
    ((repeat' (first|refine Va X0 ?_|(refine V2 X0 ?_ ?_<;>try with_reducible intro hb)|(refine Xi ?_ ?_<;>try intro ht)|exact Xx|fail)))
    refine hel _ _ rfl ?_;clear hnl hel Ql
    repeat (refine Xu ?_)
    ((repeat' (first|refine Vb X0 ?_|(refine V2 X0 ?_ ?_<;>try with_reducible intro hb)|(refine Xi ?_ ?_<;>try intro ht)|exact Xx|fail)))
    all_goals exact RetOK_pure' rfl (by rw[hres])
theorem prCount_ok (m:Mdl) (c:Ct) (left:List (List Bool)) (hm:VM m) (hc:ctB m c=true) (hf:FitsP m left) :
    Holds Tryz.prog 112 [.agg (eCt c),.tree 1 (rowsOf eBs left)] [] (.lit (.int .i64 (cntP left c))) []:=by
  obtain ⟨q1,q2,q3,q4⟩:=ctB_iff hc
  have hl:=ldL_len0 hm q4
  have hmem:=ldL_mem q4
  have hfl:=hf.1
  have hcl:=hm.cls
  have hw:∀ x∈c.loads,1≤x.wt∧x.wt≤1000:=fun x hx=>(hmem x hx).2
  have hlg:=fun k row=>lgt_rg hw k row
  generalize hres:cntP left c=res
  unfold cntP at hres
  generalize hG:grpL c.loads left none c.loads (-c.most)=G at *
  refine Holds.of_body' (fn:=Tryz.f112) 50 0 [.tmp 4] Tryz.func112 rfl rfl rfl rfl rfl (by simp) ?_
  refine Vb @eCt.eq_1 ?_
  refine W_loopS (fun z:Nat × Int=>(⟨slots [(1,.tree 1 (rowsOf eBs left)),(2,.ptr 0 0 0),(5,.lit (.int .i64 z.2)),(12,.tree 3 (rowsOf eLd c.loads)),(13,.lit (.int .i64 c.loads.length)),(14,.lit (.int .i64 z.1))],[.var (eCt c)]⟩:St))
    (fun z=>z.1≤c.loads.length∧-1048576≤z.2∧z.2≤1000 * (z.1:Int)∧grpL c.loads left ((prevAt c.loads z.1).map (·.cls)) (c.loads.drop z.1) z.2=G) (fun z=>c.loads.length - z.1) (0,-c.most) ⟨Nat.zero_le _,by dsimp only;omega,by dsimp only;omega,hG⟩ (Xv @eCt.eq_1) ?_
  rintro ⟨i,n⟩ ⟨hi,hn0,hn1,hr⟩ Ql hnl hel
  dsimp only at hi hn0 hn1 hr ⊢
  by_cases hi':i<c.loads.length
  · have hd:=getD_drop0 c.loads i default hi'
    have hx:=hmem _ (getD_mem (d:=default) hi')
    have hox:=optB_iff.1 hx.1
    have hsucc:(prevAt c.loads (i+1)).map (·.cls)=some (c.loads.getD i default).cls:=by rw[prevAt_succ];rfl
    have hpv:0<i→(prevAt c.loads i).map (·.cls)=some (c.loads.getD (i - 1) default).cls:=fun h=>by unfold prevAt;rw[if_neg (by omega)];rfl
    have hp0:i=0→(prevAt c.loads i).map (·.cls)=none:=fun h=>by unfold prevAt;rw[if_pos h];rfl
    rw[hd,grpL] at hr
    have hrl:=hf.2 (c.loads.getD i default).cls.toNat (by omega)
    have hr24:=hm.opt _ (getD_mem (l:=m.cls) (i:=(c.loads.getD i default).cls.toNat) (d:=default) (by omega))
    have hlt:=prLight_ok c (c.loads.getD i default).cls (left.getD (c.loads.getD i default).cls.toNat default) (by omega) (fun y hy e=>by
      have:=optB_iff.1 (hmem y hy).1
      rw[e] at this
      omega) hl
    have hlr:=hlg (c.loads.getD i default).cls (left.getD (c.loads.getD i default).cls.toNat default)
    have hix:0<i→((i:Int) - 1).toNat=i - 1:=fun h=>by omega
    generalize hpp:(prevAt c.loads i).map (·.cls)=pq at *
    generalize hxx:c.loads.getD i default=x at *
    generalize hyy:c.loads.getD (i - 1) default=y at *
    generalize hrow:left.getD x.cls.toNat default=row at *
    generalize lgt c.loads x.cls row=g at *
    rcases Nat.eq_zero_or_pos i with h0 | h0
    · rw[hp0 h0,if_neg (by simp)] at hr
      subst h0
      ((repeat' (first|refine Vc (X5 @hxx @eLd.eq_1 @hrow @eBs.eq_1 @eCt.eq_1) hlt ?_|(refine Xi ?_ ?_<;>try intro ht)|exact Xx|fail)))
      all_goals exact hnl _ (0+1,n+g) ⟨by dsimp only;omega,by dsimp only;omega,by dsimp only;omega,by dsimp only;rw[hsucc];exact hr⟩ (by dsimp only;omega) (Xs false [0] @eCt.eq_1)
    · rw[hpv h0] at hr
      have hix:=hix h0
      by_cases he:y.cls=x.cls
      · rw[if_pos (by rw[he])] at hr
        ((repeat' (first|refine Vc (X5 @hxx @hyy @hix @eLd.eq_1 (X3 @hrow @eBs.eq_1 @eCt.eq_1)) hlt ?_|(refine V2 (X5 @hxx @hyy @hix @eLd.eq_1 (X3 @hrow @eBs.eq_1 @eCt.eq_1)) ?_ ?_<;>try with_reducible intro hb)|(refine Xi ?_ ?_<;>try intro ht)|exact Xx|fail)))
        all_goals exact hnl _ (i+1,n) ⟨by dsimp only;omega,hn0,by dsimp only;omega,by dsimp only;rw[hsucc];exact hr⟩ (by dsimp only;omega) (Xs false [0] @eCt.eq_1)
      · rw[if_neg (fun e=>he (by injection e))] at hr
        ((repeat' (first|refine Vc (X5 @hxx @hyy @hix @eLd.eq_1 (X3 @hrow @eBs.eq_1 @eCt.eq_1)) hlt ?_|(refine V2 (X5 @hxx @hyy @hix @eLd.eq_1 (X3 @hrow @eBs.eq_1 @eCt.eq_1)) ?_ ?_<;>try with_reducible intro hb)|(refine Xi ?_ ?_<;>try intro ht)|exact Xx|fail)))
        all_goals exact hnl _ (i+1,n+g) ⟨by dsimp only;omega,by dsimp only;omega,by dsimp only;omega,by dsimp only;rw[hsucc];exact hr⟩ (by dsimp only;omega) (Xs false [0] @eCt.eq_1)
  · rw[List.drop_eq_nil_of_le (by omega),grpL] at hr
    subst hr
    have htm:=prTimes_ok (max n 0) c.pen (by omega) q3
    rw[hres] at htm
    ((repeat' (first|refine Va X0 ?_|(refine V2 X0 ?_ ?_<;>try with_reducible intro hb)|(refine Xi ?_ ?_<;>try intro ht)|exact Xx|fail)))
    refine hel _ _ rfl ?_;clear hnl hel Ql
    repeat (refine Xu ?_)
    refine Vd @eCt.eq_1 htm ?_
    all_goals exact RetOK_pure' rfl rfl
end T

