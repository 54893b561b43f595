import Derived.Test.YtkmfgcbdnijgeaaGreatX24
set_option linter.unusedVariables false
set_option linter.unusedSimpArgs false
set_option linter.unnecessarySimpa false
set_option linter.unusedSectionVars false
set_option maxHeartbeats 64000000
set_option maxRecDepth 20000
open Go Go.Am Go.Proofs
open Nat (reduceEqDiff reduceAdd reduceLeDiff reduceMul)
open Int (reduceNeg reduceLE reduceToNat)
namespace T
theorem move_ok {m:Mdl} (hm:VM m) {gi ai bi:Nat} {D E:List (Nat × Nat)} {S T:List (List Nm)} {os:List Ob} (h:LO eNm (GB m gi ai bi D E) D E S T os) {B:Int} (hB:0≤B∧B≤4611686018427387904) (hg:LG m B (S,T)) (x:Mv) (hx:mvB m x=true) :
    HoldsR Tryz.prog 91 [.ptr gi 0 0,.agg (eMv x)] os fun r ob=>r=.tup []∧LO eNm (GB m gi ai bi D E) D E (mvS m x (S,T)).1 (mvS m x (S,T)).2 ob∧os.length≤ob.length:=by
  obtain ⟨fg,fa,fb⟩:=GBf h
  have eg:=oLo fg
  have ea:=oLo fa
  have eb:=oLo fb
  have hE:=h.rE.len
  have hD:=h.rD.len
  have hs1:S.length=m.cls.length:=hg.s
  have ht1:T.length=m.prs.length:=hg.t
  have hp4:=hm.prs
  have hc4:=hm.cls
  have hx':=hx
  unfold mvB at hx'
  rw[Bool.and_eq_true,decide_eq_true_eq] at hx'
  obtain ⟨⟨x1,x2,x3,x4,x5,x6⟩,hopt⟩:=hx'
  obtain ⟨o1,o2,o3,o4⟩:=optB_iff.1 hopt
  have hpb:=prsL_mem hm.pr _ (getD_mem (l:=m.prs) (i:=x.pair.toNat) (d:=default) (by omega))
  obtain ⟨pb1,pb2,pb3,pb4⟩:=pairB_in hpb
  have hlF:=hm.opt _ (getD_mem (l:=m.cls) (i:=(m.prs.getD x.pair.toNat default).fst.toNat) (d:=default) (by omega))
  have hlS:=hm.opt _ (getD_mem (l:=m.cls) (i:=(m.prs.getD x.pair.toNat default).snd.toNat) (d:=default) (by omega))
  obtain ⟨rE1,rE2⟩:=h.rE.row x.pair.toNat (by omega)
  obtain ⟨rD1,rD2⟩:=h.rD.row (mvC m x).toNat (by omega)
  have qe:=oLo rE1
  have qd:=oLo rD1
  have hSl:(S.getD (mvC m x).toNat default).length=(m.cls.getD (mvC m x).toNat default).length:=hg.sl (mvC m x).toNat (by omega)
  have hTl:(T.getD x.pair.toNat default).length=(m.prs.getD x.pair.toNat default).tab.length:=hg.tl x.pair.toNat (by omega)
  have hv1:=(NB_getD hg.sb (mvC m x).toNat).get hB.1 x.opt.toNat
  dsimp only at hv1
  obtain ⟨rP1,rP2⟩:=h.rD.row (m.prs.getD x.pair.toNat default).snd.toNat (by omega)
  obtain ⟨rF1,rF2⟩:=h.rD.row (m.prs.getD x.pair.toNat default).fst.toNat (by omega)
  have hPl:(S.getD (m.prs.getD x.pair.toNat default).snd.toNat default).length=(m.cls.getD (m.prs.getD x.pair.toNat default).snd.toNat default).length:=hg.sl _ (by omega)
  have hFl:(S.getD (m.prs.getD x.pair.toNat default).fst.toNat default).length=(m.cls.getD (m.prs.getD x.pair.toNat default).fst.toNat default).length:=hg.sl _ (by omega)
  generalize hpp:m.prs.getD x.pair.toNat default=p at *
  generalize hcols:(m.cls.getD p.snd.toNat default).length=cols at *
  generalize hrows:(m.cls.getD p.fst.toNat default).length=rows at *
  refine HoldsR.of_body' (fn:=Tryz.f91) 95 os.length [] Tryz.func91 rfl rfl rfl rfl rfl (by simp) ?_
  refine Xk ?_
  refine rke ?_
  intro K hK
  simp (disch:=omega) only[Ac,↓Pc,simprocAttr,fg,eg,eMv]
  refine hK _ ?_;clear hK K
  refine hn _ ?_
  (try clear hn;try clear he)
  refine W_turn (Turns.frzP 3 os.length (cells:=eMv x) (by rw[oL0];rfl) (by simp only[Kc,simprocAttr]) (by simp[eMv])) ?_
  refine W_turn (σ':=⟨slots [(0,.ptr gi 0 0),(3,.taddr (eMv x))],os++[.gone]⟩) (by rw[oS0];exact Xv @eMv.eq_1) ?_
  refine Xk ?_
  refine unSq ?_;intro Q hn he
  refine join_here ⟨slots [(0,.ptr gi 0 0),(3,.taddr (eMv x)),(4,.ptr (os.length+1) 0 0),(5,.ref (E.getD x.pair.toNat default).1 2 0 (E.getD x.pair.toNat default).2)],os++[.gone,.var (ePr p)]⟩ hn ?_ (fun key=>?_)
  rotate_left
  · refine W_draw [6,8,14] (.take 0 (.take 1 (.take 2 (.take 3 (.take 4 (.take 5 (.take 6 (.take 7 (.take 8 (.take 9 (.take 10 (.take 11 (.take 13 (.take 14 (.both 12 (.take 15 (.both 16 (.take 17 (.take 18 (.take 19 .nil))) 17 (.both 16 (.take 18 (.take 19 .nil)) 18 (.take 16 (.take 19 .nil))))) 17 (.both 12 (.take 15 (.both 16 (.take 18 (.take 19 .nil)) 18 (.take 16 (.take 19 .nil)))) 18 (.take 12 (.take 15 (.take 16 (.take 19 .nil)))))))))))))))))))) rfl (by decide) (by decide +kernel) ?_
    simp (disch:=omega) only[Ac,↓Pc,simprocAttr,planW_three,planW_both,planW_take,planW_nil,stepAt,↓Lq,fg,eg,fb,eb,gC,eRf,Oc2,qe,rE1,eMv,ePr,hpp,List.append_assoc,List.length_append]
    repeat' (first|with_reducible refine And.intro ?_ ?_|omega)
    all_goals
      refine key _ ?_
      exact Xv (X2 @eMv.eq_1 @ePr.eq_1)
  (try clear hn;try clear he)
  try (try clear Q)
  have hL1:LO eNm (GB m gi ai bi D E) D E S T (os++[.gone,.var (ePr p)]):=h.app _
  have fp:(os++[Ob.gone,.var (ePr p)])[os.length+1]?=some (.var (ePr p)):=by rw[oLk];rfl
  have hcl:=class_ok hL1 x ⟨x1,x2⟩ hp4
  have fg1:=eg [.gone,.var (ePr p)]
  have fa1:=ea [.gone,.var (ePr p)]
  have qd1:=qd [.gone,.var (ePr p)]
  have eg1:=oLo fg1
  have ea1:=oLo fa1
  have ed1:=oLo qd1
  have ep1:=oLo fp
  refine Xk ?_
  have hadd:=addM_ok (os:=os++[Ob.gone,.var (ePr p),.var (eMv x)]) (id:=(D.getD (mvC m x).toNat default).1) (r:=x.opt.toNat) (row:=S.getD (mvC m x).toNat default) (qd _) (by omega) x.amt (by unfold In64;omega)
  have sd:=oSo rD1
  generalize hmc:mvC m x=c at *
  refine unSq ?_;intro Q hn he
  refine join_here ⟨slots [(0,.ptr gi 0 0),(3,.taddr (eMv x)),(4,.ptr (os.length+1) 0 0),(5,.ref (E.getD x.pair.toNat default).1 2 0 (E.getD x.pair.toNat default).2)],os.set (D.getD c.toNat default).1 (.arr 2 (rowsOf eNm (addR (S.getD c.toNat default) x.opt.toNat x.amt)))++[.gone,.var (ePr p),.var (eMv x)]⟩ hn ?_ (fun key=>?_)
  rotate_left
  · refine W_drawF [5,10,13] (.take 0 (.take 4 (.take 5 (.four 1 (.four 2 (.four 3 (.three 6 (.take 7 (.take 8 (.take 9 (.take 10 (.take 11 (.take 12 (.take 13 (.take 14 .nil)))))))) 9 (.take 10 (.both 6 (.take 7 (.take 8 (.take 11 (.take 12 (.take 13 (.take 14 .nil)))))) 12 (.take 6 (.take 7 (.take 8 (.take 11 (.take 13 (.take 14 .nil)))))))) 12 (.take 13 (.both 6 (.take 7 (.take 8 (.take 9 (.take 10 (.take 11 (.take 14 .nil)))))) 9 (.take 6 (.take 7 (.take 8 (.take 10 (.take 11 (.take 14 .nil))))))))) 6 (.take 3 (.take 7 (.take 8 (.take 9 (.take 10 (.take 11 (.take 12 (.take 13 (.take 14 .nil))))))))) 9 (.take 10 (.three 3 (.both 6 (.take 7 (.take 8 (.take 11 (.take 12 (.take 13 (.take 14 .nil)))))) 12 (.take 6 (.take 7 (.take 8 (.take 11 (.take 13 (.take 14 .nil))))))) 6 (.take 3 (.take 7 (.take 8 (.take 11 (.take 12 (.take 13 (.take 14 .nil))))))) 12 (.take 13 (.both 3 (.take 6 (.take 7 (.take 8 (.take 11 (.take 14 .nil))))) 6 (.take 3 (.take 7 (.take 8 (.take 11 (.take 14 .nil))))))))) 12 (.take 13 (.three 3 (.both 6 (.take 7 (.take 8 (.take 9 (.take 10 (.take 11 (.take 14 .nil)))))) 9 (.take 6 (.take 7 (.take 8 (.take 10 (.take 11 (.take 14 .nil))))))) 6 (.take 3 (.take 7 (.take 8 (.take 9 (.take 10 (.take 11 (.take 14 .nil))))))) 9 (.take 10 (.both 3 (.take 6 (.take 7 (.take 8 (.take 11 (.take 14 .nil))))) 6 (.take 3 (.take 7 (.take 8 (.take 11 (.take 14 .nil)))))))))) 6 (.take 2 (.take 3 (.take 7 (.take 8 (.take 9 (.take 10 (.take 11 (.take 12 (.take 13 (.take 14 .nil)))))))))) 9 (.take 10 (.three 2 (.three 3 (.both 6 (.take 7 (.take 8 (.take 11 (.take 12 (.take 13 (.take 14 .nil)))))) 12 (.take 6 (.take 7 (.take 8 (.take 11 (.take 13 (.take 14 .nil))))))) 6 (.take 3 (.take 7 (.take 8 (.take 11 (.take 12 (.take 13 (.take 14 .nil))))))) 12 (.take 13 (.both 3 (.take 6 (.take 7 (.take 8 (.take 11 (.take 14 .nil))))) 6 (.take 3 (.take 7 (.take 8 (.take 11 (.take 14 .nil)))))))) 6 (.take 2 (.take 3 (.take 7 (.take 8 (.take 11 (.take 12 (.take 13 (.take 14 .nil)))))))) 12 (.take 13 (.both 2 (.both 3 (.take 6 (.take 7 (.take 8 (.take 11 (.take 14 .nil))))) 6 (.take 3 (.take 7 (.take 8 (.take 11 (.take 14 .nil)))))) 6 (.take 2 (.take 3 (.take 7 (.take 8 (.take 11 (.take 14 .nil)))))))))) 12 (.take 13 (.three 2 (.three 3 (.both 6 (.take 7 (.take 8 (.take 9 (.take 10 (.take 11 (.take 14 .nil)))))) 9 (.take 6 (.take 7 (.take 8 (.take 10 (.take 11 (.take 14 .nil))))))) 6 (.take 3 (.take 7 (.take 8 (.take 9 (.take 10 (.take 11 (.take 14 .nil))))))) 9 (.take 10 (.both 3 (.take 6 (.take 7 (.take 8 (.take 11 (.take 14 .nil))))) 6 (.take 3 (.take 7 (.take 8 (.take 11 (.take 14 .nil)))))))) 6 (.take 2 (.take 3 (.take 7 (.take 8 (.take 9 (.take 10 (.take 11 (.take 14 .nil)))))))) 9 (.take 10 (.both 2 (.both 3 (.take 6 (.take 7 (.take 8 (.take 11 (.take 14 .nil))))) 6 (.take 3 (.take 7 (.take 8 (.take 11 (.take 14 .nil)))))) 6 (.take 2 (.take 3 (.take 7 (.take 8 (.take 11 (.take 14 .nil))))))))))) 6 (.take 1 (.take 2 (.take 3 (.take 7 (.take 8 (.take 9 (.take 10 (.take 11 (.take 12 (.take 13 (.take 14 .nil))))))))))) 9 (.take 10 (.three 1 (.three 2 (.three 3 (.both 6 (.take 7 (.take 8 (.take 11 (.take 12 (.take 13 (.take 14 .nil)))))) 12 (.take 6 (.take 7 (.take 8 (.take 11 (.take 13 (.take 14 .nil))))))) 6 (.take 3 (.take 7 (.take 8 (.take 11 (.take 12 (.take 13 (.take 14 .nil))))))) 12 (.take 13 (.both 3 (.take 6 (.take 7 (.take 8 (.take 11 (.take 14 .nil))))) 6 (.take 3 (.take 7 (.take 8 (.take 11 (.take 14 .nil)))))))) 6 (.take 2 (.take 3 (.take 7 (.take 8 (.take 11 (.take 12 (.take 13 (.take 14 .nil)))))))) 12 (.take 13 (.both 2 (.both 3 (.take 6 (.take 7 (.take 8 (.take 11 (.take 14 .nil))))) 6 (.take 3 (.take 7 (.take 8 (.take 11 (.take 14 .nil)))))) 6 (.take 2 (.take 3 (.take 7 (.take 8 (.take 11 (.take 14 .nil))))))))) 6 (.take 1 (.take 2 (.take 3 (.take 7 (.take 8 (.take 11 (.take 12 (.take 13 (.take 14 .nil))))))))) 12 (.take 13 (.both 1 (.both 2 (.both 3 (.take 6 (.take 7 (.take 8 (.take 11 (.take 14 .nil))))) 6 (.take 3 (.take 7 (.take 8 (.take 11 (.take 14 .nil)))))) 6 (.take 2 (.take 3 (.take 7 (.take 8 (.take 11 (.take 14 .nil))))))) 6 (.take 1 (.take 2 (.take 3 (.take 7 (.take 8 (.take 11 (.take 14 .nil))))))))))) 12 (.take 13 (.three 1 (.three 2 (.three 3 (.both 6 (.take 7 (.take 8 (.take 9 (.take 10 (.take 11 (.take 14 .nil)))))) 9 (.take 6 (.take 7 (.take 8 (.take 10 (.take 11 (.take 14 .nil))))))) 6 (.take 3 (.take 7 (.take 8 (.take 9 (.take 10 (.take 11 (.take 14 .nil))))))) 9 (.take 10 (.both 3 (.take 6 (.take 7 (.take 8 (.take 11 (.take 14 .nil))))) 6 (.take 3 (.take 7 (.take 8 (.take 11 (.take 14 .nil)))))))) 6 (.take 2 (.take 3 (.take 7 (.take 8 (.take 9 (.take 10 (.take 11 (.take 14 .nil)))))))) 9 (.take 10 (.both 2 (.both 3 (.take 6 (.take 7 (.take 8 (.take 11 (.take 14 .nil))))) 6 (.take 3 (.take 7 (.take 8 (.take 11 (.take 14 .nil)))))) 6 (.take 2 (.take 3 (.take 7 (.take 8 (.take 11 (.take 14 .nil))))))))) 6 (.take 1 (.take 2 (.take 3 (.take 7 (.take 8 (.take 9 (.take 10 (.take 11 (.take 14 .nil))))))))) 9 (.take 10 (.both 1 (.both 2 (.both 3 (.take 6 (.take 7 (.take 8 (.take 11 (.take 14 .nil))))) 6 (.take 3 (.take 7 (.take 8 (.take 11 (.take 14 .nil)))))) 6 (.take 2 (.take 3 (.take 7 (.take 8 (.take 11 (.take 14 .nil))))))) 6 (.take 1 (.take 2 (.take 3 (.take 7 (.take 8 (.take 11 (.take 14 .nil))))))))))))))) rfl (by decide) (by decide +kernel) ?_
    simp (disch:=omega) only[Ac,↓Pc,simprocAttr,planF_four,planF_three,planF_both,planF_take,planF_nil,stepAt,↓Lq,eg,ea,gC,eRf,Oc2,qd,eMv]
    repeat' (first|with_reducible refine And.intro ?_ ?_|omega|(refine callK_all hcl (by simp) ?_;simp (disch:=omega) only[Ac,↓Pc,simprocAttr,planF_four,planF_three,planF_both,planF_take,planF_nil,stepAt,↓Lq,eg,ea,gC,eRf,Oc2,qd,eMv,List.append_assoc])|(refine callK_all hadd (by simp) ?_;simp (disch:=omega) only[Ac,↓Pc,simprocAttr,planF_nil,sd,List.append_assoc]))
    all_goals
      refine key _ ?_
      exact Xv @eMv.eq_1
  (try clear hn;try clear he)
  try (try clear Q)
  have hL2:=(h.setD (j:=c.toNat) (by omega) (r:=addR (S.getD c.toNat default) x.opt.toNat x.amt) (addR_len _ _ _)).app [.gone,.var (ePr p),.var (eMv x)]
  have hlen2:os.length≤(os.set (D.getD c.toNat default).1 (.arr 2 (rowsOf eNm (addR (S.getD c.toNat default) x.opt.toNat x.amt)))++[Ob.gone,Ob.var (ePr p),Ob.var (eMv x)]).length:=by simp
  have fp2:(os.set (D.getD c.toNat default).1 (.arr 2 (rowsOf eNm (addR (S.getD c.toNat default) x.opt.toNat x.amt)))++[Ob.gone,Ob.var (ePr p),Ob.var (eMv x)])[os.length+1]?=some (.var (ePr p)):=oLs _ _ _ _ _
  have hmS:mvS m x (S,T)=(S.set c.toNat (addR (S.getD c.toNat default) x.opt.toNat x.amt),T.set x.pair.toNat (subK (mvF m x).1 x.amt (mvF m x).2 (T.getD x.pair.toNat default))):=by unfold mvS;rw[hmc]
  rw[hmS]
  dsimp only
  have htlen:x.pair.toNat<T.length:=by omega
  have hmF:mvF m x=if x.side=0 then (fun k:Nat=>(x.opt * cols+k).toNat,cols) else (fun k:Nat=>((k:Int) * cols+x.opt).toNat,rows):=by unfold mvF;rw[hpp,hcols,hrows]
  have hcside:c=if x.side=0 then p.fst else p.snd:=by rw[← hmc];unfold mvC;rw[hpp]
  have hnbT:=NB_getD hg.tb x.pair.toNat
  dsimp only at hnbT
  have htl:=pairB_tab hpb hm
  generalize hS':S.set c.toNat (addR (S.getD c.toNat default) x.opt.toNat x.amt)=S' at *
  generalize os.set (D.getD c.toNat default).1 (.arr 2 (rowsOf eNm (addR (S.getD c.toNat default) x.opt.toNat x.amt)))++[Ob.gone,.var (ePr p),.var (eMv x)]=os1 at *
  obtain ⟨gg,ga,gb⟩:=GBf hL2
  obtain ⟨u1,u2⟩:=hL2.rD.row p.snd.toNat (by omega)
  obtain ⟨v1,v2⟩:=hL2.rD.row p.fst.toNat (by omega)
  clear fg eg fa ea fb eb rE1 rD1 qe qd rP1 rF1 hL1 fp hcl fg1 fa1 qd1 eg1 ea1 ed1 ep1 hadd sd h
  have hwid:(D.getD p.snd.toNat default).2=cols:=by rw[← rP2];exact hPl
  have hhgt:(D.getD p.fst.toNat default).2=rows:=by rw[← rF2];exact hFl
  by_cases hs:x.side=0
  · rw[if_pos hs] at hcside hmF
    rw[hcside] at o4
    rw[hmF]
    dsimp only
    ((repeat' (first|refine Vb (X5 @gg @ga @gC.eq_1 @eRf.eq_1 (X5 @fp2 @ePr.eq_1 @u1 @v1 (X3 @hwid @hhgt @eMv.eq_1))) ?_|(refine Xi ?_ ?_<;>try intro ht)|exact Xx|fail)))
    refine W_loopS (fun z:Nat × List Ob=>(⟨slots [(3,.taddr (eMv x)),(5,.ref (E.getD x.pair.toNat default).1 2 0 (E.getD x.pair.toNat default).2),(6,.lit (.int .i64 cols)),(53,.lit (.int .i64 cols)),(54,.lit (.int .i64 z.1))],z.2⟩:St))
      (fun z=>z.1≤cols∧LO eNm (GB m gi ai bi D E) D E S' (T.set x.pair.toNat (subK (fun k:Nat=>(x.opt * cols+k).toNat) x.amt z.1 (T.getD x.pair.toNat default))) z.2∧os.length≤z.2.length)
      (fun z=>cols - z.1) (0,os1) ⟨Nat.zero_le _,by rw[subK,set_self];exact hL2,hlen2⟩ (Xv @eMv.eq_1) ?_
    rintro ⟨k,ok⟩ ⟨hk,hLk,hlk⟩ Ql hnl hel
    dsimp only at hk hLk hlk ⊢
    obtain ⟨rK1,rK2⟩:=hLk.rE.row x.pair.toNat (by omega)
    rw[getD_set _ _ _ htlen] at rK1 rK2
    have hsl:=subK_len (fun k:Nat=>(x.opt * cols+k).toNat) x.amt k (T.getD x.pair.toNat default)
    have hbd:=(hnbT.sub (by omega) (fun k:Nat=>(x.opt * cols+k).toNat) (a:=x.amt) (by omega) k).get (by omega) (x.opt * cols+k:Int).toNat
    by_cases hk':k<cols
    · have hL3:=hLk.setE (j:=x.pair.toNat) (by omega) (r:=addR (subK (fun k:Nat=>(x.opt * cols+k).toNat) x.amt k (T.getD x.pair.toNat default)) (x.opt * cols+k:Int).toNat (-x.amt)) (by rw[getD_set _ _ _ htlen];exact addR_len _ _ _)
      rw[List.set_set] at hL3
      obtain ⟨ix1,ix2,ix3,ix4⟩:=idx_in (a:=x.opt) (k:=(k:Int)) (c:=(cols:Int)) (n:=(rows:Int)) ⟨o3,by omega⟩ (by omega) (by omega) (by omega)
      generalize hixx:(x.opt * cols+k:Int)=ix at *
      generalize htk:subK (fun k:Nat=>(x.opt * cols+k).toNat) x.amt k (T.getD x.pair.toNat default)=tk at *
      have hadd:=addM_ok rK1 (r:=ix.toNat) (by omega) (-x.amt) (by unfold In64;omega)
      ((repeat' (first|refine Va (X3 @rK1 @eMv.eq_1 @hixx) ?_|(refine Xi ?_ ?_<;>try intro ht)|exact Xx|fail))<;>try with_reducible intro K hK)
      refine callK_all hadd (by simp) ?_
      ((try revert hK K);(refine Va X0 ?_))
      refine hnl _ (k+1,_) ⟨by dsimp only;omega,by rw[subK,htk,hixx];exact hL3,by dsimp only;rw[List.length_set];exact hlk⟩ (by dsimp only;omega) ?_
      exact Xv @eMv.eq_1
    · have hkc:k=cols:=by omega
      rw[hkc] at hLk
      ((repeat' (first|refine Va X0 ?_|(refine Xi ?_ ?_<;>try intro ht)|exact Xx|fail)))
      refine hel _ _ rfl ?_
      clear hnl hel Ql
      repeat (refine Xu ?_)
      refine Vb X0 ?_
      unfold retR
      simp only[resW,retV]
      exact⟨.tup [],_,⟨rfl,hLk,hlk⟩,RetOK_all rfl hlk rfl⟩
  · rw[if_neg hs] at hcside hmF
    rw[hcside] at o4
    rw[hmF]
    dsimp only
    ((repeat' (first|refine Vb (X5 @gg @ga @gC.eq_1 @eRf.eq_1 (X5 @fp2 @ePr.eq_1 @u1 @v1 (X3 @hwid @hhgt @eMv.eq_1))) ?_|(refine Xi ?_ ?_<;>try intro ht)|exact Xx|fail)))
    refine W_loopS (fun z:Nat × List Ob=>(⟨slots [(3,.taddr (eMv x)),(5,.ref (E.getD x.pair.toNat default).1 2 0 (E.getD x.pair.toNat default).2),(6,.lit (.int .i64 cols)),(78,.lit (.int .i64 rows)),(79,.lit (.int .i64 z.1))],z.2⟩:St))
      (fun z=>z.1≤rows∧LO eNm (GB m gi ai bi D E) D E S' (T.set x.pair.toNat (subK (fun k:Nat=>((k:Int) * cols+x.opt).toNat) x.amt z.1 (T.getD x.pair.toNat default))) z.2∧os.length≤z.2.length)
      (fun z=>rows - z.1) (0,os1) ⟨Nat.zero_le _,by rw[subK,set_self];exact hL2,hlen2⟩ (Xv @eMv.eq_1) ?_
    rintro ⟨k,ok⟩ ⟨hk,hLk,hlk⟩ Ql hnl hel
    dsimp only at hk hLk hlk ⊢
    obtain ⟨rK1,rK2⟩:=hLk.rE.row x.pair.toNat (by omega)
    rw[getD_set _ _ _ htlen] at rK1 rK2
    have hsl:=subK_len (fun k:Nat=>((k:Int) * cols+x.opt).toNat) x.amt k (T.getD x.pair.toNat default)
    have hbd:=(hnbT.sub (by omega) (fun k:Nat=>((k:Int) * cols+x.opt).toNat) (a:=x.amt) (by omega) k).get (by omega) ((k:Int) * cols+x.opt).toNat
    by_cases hk':k<rows
    · have hL3:=hLk.setE (j:=x.pair.toNat) (by omega) (r:=addR (subK (fun k:Nat=>((k:Int) * cols+x.opt).toNat) x.amt k (T.getD x.pair.toNat default)) ((k:Int) * cols+x.opt).toNat (-x.amt)) (by rw[getD_set _ _ _ htlen];exact addR_len _ _ _)
      rw[List.set_set] at hL3
      obtain ⟨ix1,ix2,ix3,ix4⟩:=idx_in (a:=(k:Int)) (k:=x.opt) (c:=(cols:Int)) (n:=(rows:Int)) (by omega) ⟨o3,by omega⟩ (by omega) (by omega)
      generalize hixx:((k:Int) * cols+x.opt)=ix at *
      generalize htk:subK (fun k:Nat=>((k:Int) * cols+x.opt).toNat) x.amt k (T.getD x.pair.toNat default)=tk at *
      have hadd:=addM_ok rK1 (r:=ix.toNat) (by omega) (-x.amt) (by unfold In64;omega)
      ((repeat' (first|refine Va (X3 @rK1 @eMv.eq_1 @hixx) ?_|(refine Xi ?_ ?_<;>try intro ht)|exact Xx|fail))<;>try with_reducible intro K hK)
      refine callK_all hadd (by simp) ?_
      ((try revert hK K);(refine Va X0 ?_))
      refine hnl _ (k+1,_) ⟨by dsimp only;omega,by rw[subK,htk,hixx];exact hL3,by dsimp only;rw[List.length_set];exact hlk⟩ (by dsimp only;omega) ?_
      exact Xv @eMv.eq_1
    · have hkc:k=rows:=by omega
      rw[hkc] at hLk
      ((repeat' (first|refine Va X0 ?_|(refine Xi ?_ ?_<;>try intro ht)|exact Xx|fail)))
      refine hel _ _ rfl ?_
      clear hnl hel Ql
      repeat (refine Xu ?_)
      ((skip))
      unfold retR
      simp only[resW,retV]
      exact⟨.tup [],_,⟨rfl,hLk,hlk⟩,RetOK_all rfl hlk rfl⟩
end T

