import Derived.Test.YtkmfgcbdnijgeaaGreatX15
import Derived.Test.YtkmfgcbdnijgeaaGreatX18
import Derived.Test.YtkmfgcbdnijgeaaGreatX20
set_option linter.unusedVariables false
set_option linter.unusedSimpArgs false
set_option linter.unnecessarySimpa false
set_option linter.unusedSectionVars false
set_option maxHeartbeats 64000000
set_option maxRecDepth 20000
open Go Go.Am Go.Proofs
open Nat (reduceEqDiff reduceAdd reduceLeDiff reduceMul)
open Int (reduceNeg reduceLE reduceToNat)
namespace T
theorem refFits_ok (m:Mdl) (left:List (List Bool)) (hm:MB m) (hb:BB left):Holds Tryz.prog 117 [.agg (eMdl m),.tree 1 (rowsOf eBs left)] [] (.lit (.bool (decide (FitsP m left)))) []:=by
  have hm1:=hm.cls
  have hb1:=hb.1
  generalize hres:decide (FitsP m left)=res
  refine Holds.of_body' (fn:=Tryz.f117) 30 0 [.tmp 4] Tryz.func117 rfl rfl rfl rfl rfl (by simp) ?_
  by_cases hl:left.length=m.cls.length
  rotate_left
  · rw[decide_eq_false (fun h:FitsP m left=>hl h.1)] at hres
    ((repeat' (first|refine Va X0 ?_|(refine Xi ?_ ?_<;>try intro ht)|exact Xx|fail)))
    ((skip))
    exact RetOK_pure' rfl (by rw[← hres])
  ((repeat' (first|refine Va X0 ?_|(refine Xi ?_ ?_<;>try intro ht)|exact Xx|fail)))
  refine W_loopS (fun k:Nat=>(⟨slots [(1,.tree 1 (rowsOf eBs left)),(2,.ptr 0 0 0),(5,.lit (.int .i64 k))],[.var (eMdl m)]⟩:St)) (fun k=>k≤left.length∧∀ i,i<k→(left.getD i default).length=(m.cls.getD i default).length) (fun k=>left.length - k) 0 ⟨Nat.zero_le _,by omega⟩ (Xv X0) ?_
  rintro k ⟨hk,hr⟩ Ql hnl hel
  by_cases hk':k<left.length
  · have h1:=hm.opt _ (getD_mem (l:=m.cls) (i:=k) (d:=default) (by omega))
    have h2:=hb.2 _ (getD_mem (d:=default) hk')
    generalize ha1:m.cls.getD k default=a at *
    generalize hb1:left.getD k default=b at *
    by_cases hab:b.length=a.length
    · ((repeat' (first|refine Va (X4 @ha1 @hb1 @eCls.eq_1 @eBs.eq_1) ?_|(refine Xi ?_ ?_<;>try intro ht)|exact Xx|fail)))
      exact hnl _ (k+1) ⟨by omega,fun i hi=>by
        by_cases e:i=k
        · subst e;rw[hb1,ha1];exact hab
        · exact hr i (by omega)⟩ (by omega) (Xv X0)
    · rw[decide_eq_false (fun h:FitsP m left=>hab (by have:=h.2 k (by omega);rw[hb1,ha1] at this;exact this))] at hres
      ((repeat' (first|refine Va (X4 @ha1 @hb1 @eCls.eq_1 @eBs.eq_1) ?_|(refine Xi ?_ ?_<;>try intro ht)|exact Xx|fail)))
      repeat (refine Xu ?_)
      refine Vb X0 ?_
      exact RetOK_pure' rfl (by rw[← hres])
  · rw[decide_eq_true (show FitsP m left from ⟨hl,fun i hi=>hr i (by omega)⟩)] at hres
    ((repeat' (first|refine Va X0 ?_|(refine Xi ?_ ?_<;>try intro ht)|exact Xx|fail)))
    refine hel _ _ rfl ?_;clear hnl hel Ql
    repeat (refine Xu ?_)
    refine Vb X0 ?_
    exact RetOK_pure' rfl (by rw[← hres])
theorem ctB_lds {m:Mdl} {left:List (List Bool)} (hm:VM m) (hf:FitsP m left) {c:Ct} (hc:c∈m.cts):(∀ x∈c.loads,(0≤x.cls∧x.cls<left.length)∧1≤x.wt∧x.wt≤1000)∧0≤c.most∧In41 c.pen∧c.loads.length≤1000000:=by
  obtain ⟨_,h2,h3,h4⟩:=ctB_iff (hm.ct c hc)
  refine⟨fun x hx=>?_,h2.1,price_in h3,?_⟩
  · obtain ⟨h5,h6⟩:=ldL_mem h4 x hx
    obtain ⟨a,b,_,_⟩:=optB_iff.1 h5
    have:=hf.1
    exact⟨⟨a,by omega⟩,h6⟩
  · have:=ldL_len0 hm h4;omega
theorem refExcess_ok (m:Mdl) (left:List (List Bool)) (c:Ct) (hm:VM m) (hf:FitsP m left) (hc:c∈m.cts):Holds Tryz.prog 122 [.agg (eMdl m),.tree 1 (rowsOf eBs left),.agg (eCt c)] [] (.lit (.int .i64 (lowS c.loads 0 left 0 - c.most))) []:=by
  obtain ⟨q1,q2,q3,q4⟩:=ctB_lds hm hf hc
  have hwt:∀ x∈c.loads,1≤x.wt∧x.wt≤1000:=fun x hx=>(q1 x hx).2
  have hm1:=hm.cls
  have hl:=hf.1
  have hmost:=(ctB_iff (hm.ct c hc)).2.1
  refine Holds.of_body' (fn:=Tryz.f122) 85 0 [.tmp 6] Tryz.func122 rfl rfl rfl rfl rfl (by simp) ?_
  refine Va X0 ?_
  refine W_loopS (fun i:Nat=>(⟨slots [(1,.tree 1 (rowsOf eBs left)),(3,.ptr 0 0 0),(5,.ptr 1 0 0),(7,.lit (.int .i64 (lowS c.loads 0 (left.take i) 0))),(8,.lit (.int .i64 i))],[.var (eMdl m),.var (eCt c)]⟩:St)) (fun i=>i≤left.length) (fun i=>left.length - i) 0 (Nat.zero_le _) (Xv (X2 @List.take_zero.{0} (X2 @lowS.eq_1 @lowS.eq_2))) ?_
  rintro i hi Ql hnl hel
  have hns:=lowS_rg hwt (left.take i)
  rw[List.length_take] at hns
  by_cases hi':i<left.length
  · have hcl:(left.getD i default).length=(m.cls.getD i default).length:=hf.2 i hi'
    have ho24:=hm.opt _ (getD_mem (l:=m.cls) (i:=i) (d:=default) (by omega))
    have hts:=take_snoc hi'
    have hss:=lowS_snoc c.loads (left.getD i default) (left.take i) 0 0
    rw[← hts,List.length_take,Nat.min_eq_left (by omega),Nat.zero_add] at hss
    generalize lowS c.loads 0 (left.take i) 0=n at *
    generalize hro:left.getD i default=row at *
    generalize hop:m.cls.getD i default=l at *
    ((repeat' (first|refine Va X0 ?_|(refine Xi ?_ ?_<;>try intro ht)|exact Xx|fail)))
    refine W_loopS (fun o:Nat=>(⟨slots [(1,.tree 1 (rowsOf eBs left)),(3,.ptr 0 0 0),(5,.ptr 1 0 0),(7,.lit (.int .i64 n)),(8,.lit (.int .i64 i)),(9,.lit (.int .i64 (max (lowW c.loads i 0 (row.take o) (-1)) 0))),(10,.lit (.bool (decide (0≤lowW c.loads i 0 (row.take o) (-1))))),(11,.lit (.int .i64 o))],[.var (eMdl m),.var (eCt c)]⟩:St)) (fun o=>o≤row.length) (fun o=>row.length - o) 0 (Nat.zero_le _) (Xv (X2 @List.take_zero.{0} (X2 @lowW.eq_1 @lowW.eq_2))) ?_
    rintro o ho Ql2 hnl2 hel2
    have hb:=lowW_rg hwt i (row.take o) 0 (-1) (by omega)
    by_cases ho':o<row.length
    · have htk:lowW c.loads i 0 (row.take (o+1)) (-1)=if row.getD o false=true∧(lowW c.loads i 0 (row.take o) (-1)<0∨wlV c.loads i o 0<lowW c.loads i 0 (row.take o) (-1)) then wlV c.loads i o 0 else lowW c.loads i 0 (row.take o) (-1):=by
        rw[List.take_succ_eq_append_getElem ho',lowW_snoc,List.getD_eq_getElem?_getD,List.getElem?_eq_getElem ho',List.length_take,Nat.min_eq_left (by omega),Nat.zero_add];rfl
      have hw:=wlV_rg hwt i o 0 (by omega)
      generalize lowW c.loads i 0 (row.take o) (-1)=b at *
      generalize hiss:row.getD o false=is at *
      cases is with
      | false =>
        rw[if_neg (by simp)] at htk
        ((repeat' (first|refine Va (X5 @hop @hro @hiss @eCls.eq_1 @eBs.eq_1) ?_|(refine Xi ?_ ?_<;>try intro ht)|exact Xx|fail)))
        exact hnl2 _ (o+1) (by omega) (by omega) (by simp only[htk];exact Xv X0)
      | true =>
        simp only[eq_self,true_and] at htk
        ((repeat' (first|refine Va (X5 @hop @hro @hiss @eCls.eq_1 @eBs.eq_1) ?_|(refine Xi ?_ ?_<;>try intro ht)|exact Xx|fail)))
        refine W_loopS (fun k:Nat=>(⟨slots [(1,.tree 1 (rowsOf eBs left)),(3,.ptr 0 0 0),(5,.ptr 1 0 0),(7,.lit (.int .i64 n)),(8,.lit (.int .i64 i)),(9,.lit (.int .i64 (max b 0))),(10,.lit (.bool (decide (0≤b)))),(11,.lit (.int .i64 o)),(12,.lit (.int .i64 (wlV (c.loads.take k) i o 0))),(13,.lit (.int .i64 k))],[.var (eMdl m),.var (eCt c)]⟩:St)) (fun k=>k≤c.loads.length) (fun k=>c.loads.length - k) 0 (Nat.zero_le _) (Xv (X2 @List.take_zero.{0} (X2 @wlV.eq_1 @wlV.eq_2))) ?_
        rintro k hk Ql3 hnl3 hel3
        by_cases hk':k<c.loads.length
        · have hts2:=take_snoc hk'
          have hxx:=q1 _ (getD_mem (d:=default) hk')
          have hsn:=wlV_snoc (c.loads.take k) (c.loads.getD k default) i o 0
          rw[← hts2] at hsn
          generalize wlV (c.loads.take k) i o 0=w at *
          generalize hld:c.loads.getD k default=x at *
          ((repeat' (first|refine Va (X2 @hld @eLd.eq_1) ?_|(refine V2 (X2 @hld @eLd.eq_1) ?_ ?_<;>try with_reducible intro hb)|(refine Xi ?_ ?_<;>try intro ht)|exact Xx|fail)))
          all_goals
            refine hnl3 _ (k+1) (by omega) (by omega) ?_
            simp only[hsn]
            first
              | rw[if_pos (by omega)]
              | rw[if_neg (by omega)]
            exact Xv X0
        · ((repeat' (first|refine Va X0 ?_|(refine V2 X0 ?_ ?_<;>try with_reducible intro hb)|(refine Xi ?_ ?_<;>try intro ht)|exact Xx|fail)))
          rw[List.take_of_length_le (by omega)]
          refine hel3 _ _ rfl ?_
          clear hnl3 hel3 Ql3
          repeat (refine Xu ?_)
          generalize wlV c.loads i o 0=w at *
          ((repeat' (first|refine Va X0 ?_|(refine V2 X0 ?_ ?_<;>try with_reducible intro hb)|(refine Xi ?_ ?_<;>try intro ht)|exact Xx|fail)))
          all_goals
            refine hnl2 _ (o+1) (by omega) (by omega) ?_
            simp only[htk]
            first
              | (rw[if_pos (by omega)];have e1:max w 0=w:=by omega
                 have e2:decide (0≤w)=true:=decide_eq_true (by omega)
                 simp only[e1,e2];exact Xv X0)
              | (rw[if_neg (by omega)];exact Xv X0)
    · rw[List.take_of_length_le (by omega)] at hb
      have hlc:lowC c.loads i row=max (lowW c.loads i 0 row (-1)) 0:=rfl
      ((repeat' (first|refine Va (X3 @hop @eCls.eq_1 (List.take_of_length_le (show row.length≤o by omega))) ?_|(refine Xi ?_ ?_<;>try intro ht)|exact Xx|fail)))
      refine hel2 _ _ rfl ?_
      clear hnl2 hel2 Ql2
      repeat (refine Xu ?_)
      refine Va X0 ?_
      exact hnl _ (i+1) (by omega) (by omega) (by simp only[hss,hlc];exact Xv X0)
  · ((repeat' (first|refine Va (List.take_of_length_le (show left.length≤i by omega)) ?_|(refine Xi ?_ ?_<;>try intro ht)|exact Xx|fail)))
    refine hel _ _ rfl ?_;clear hnl hel Ql
    repeat (refine Xu ?_)
    rw[List.take_of_length_le (by omega)] at hns
    repeat' (first|(refine Xr X0 ?_;intro K hK)|(refine hK _ ?_;clear hK K)|refine Xz ?_|(refine Xe ?_;first|refine RetOK_pure' rfl ?_|refine Xl ?_ ?_)|refine Xd ?_ ?_|exact Xx|fail)
theorem of_ok (x:Int):Holds Tryz.prog 130 [.lit (.int .i64 x)] [] (.agg (eNm (ofN x))) []:=by
  refine Holds.of_body' (fn:=Tryz.f130) 7 0 [.cell 2 185] Tryz.func130 rfl rfl rfl rfl rfl (by simp) ?_
  refine Vb X0 ?_
  simp (disch:=omega) only[Ac,↓Pc,simprocAttr,eNm,ofN,retV]
  exact RetOK_pure' rfl rfl
theorem refOwn_ok (l:List Opt) (R:Int) (hl:l.length≤24) (hch:∀ o∈l,chL R none o.ch=true) (hlen:∀ o∈l,o.ch.length≤100):Holds Tryz.prog 120 [.tree 6 (rowsOf eOpt l)] [] (.tree 1 (ints (ownV l))) []:=by
  refine Holds.of_body' (fn:=Tryz.f120) 39 0 [.tmp 2] Tryz.func120 rfl rfl rfl rfl rfl (by simp) ?_
  refine Vb X0 ?_
  refine W_loopS (fun z:Nat × List Int=>(⟨slots [(0,.tree 6 (rowsOf eOpt l)),(3,.ref 0 1 0 z.2.length),(4,.lit (.int .i64 z.1))],[.arr 1 (ints z.2)]⟩:St)) (fun z=>z.1≤l.length∧z.2=(ownV l).take z.1) (fun z=>l.length - z.1) (0,[]) ⟨Nat.zero_le _,rfl⟩ ?_ ?_
  · refine Turns.trans (Turns.nil 3 1 (by simp only[Kc,simprocAttr]) (by decide)) ?_
    exact Xv X0
  rintro ⟨i,xs⟩ ⟨hi,hxs⟩ Ql hnl hel
  dsimp only at hi hxs ⊢
  have hol:(ownV l).length=l.length:=by unfold ownV;simp
  by_cases hi':i<l.length
  · have hts:=take_snoc (l:=ownV l) (k:=i) (by omega)
    have hoi:(ownV l).getD i default=ownS (l.getD i default):=by
      unfold ownV;rw[List.getD_eq_getElem?_getD,List.getElem?_map,List.getD_eq_getElem?_getD,List.getElem?_eq_getElem hi'];rfl
    have hom:=getD_mem (l:=l) (d:=default) hi'
    have hc:=chs_in (hch _ hom)
    have hle:=hlen _ hom
    have hlt:xs.length=i:=by rw[hxs,List.length_take];omega
    rw[hoi,← hxs] at hts
    generalize hoo:l.getD i default=o at *
    ((repeat' (first|refine Va @hoo ?_|(refine Xi ?_ ?_<;>try intro ht)|exact Xx|fail)))
    refine W_loopS (fun k:Nat=>(⟨slots [(0,.tree 6 (rowsOf eOpt l)),(3,.ref 0 1 0 xs.length),(4,.lit (.int .i64 i)),(5,.lit (.int .i64 (((o.ch.take k).map (·.2)).foldl addC 0))),(6,.lit (.int .i64 k))],[.arr 1 (ints xs)]⟩:St)) (fun k=>k≤o.ch.length) (fun k=>o.ch.length - k) 0 (Nat.zero_le _) (Xv (X3 @List.take_zero.{0} @List.map_nil.{0,0} @List.foldl_nil.{0,0})) ?_
    rintro k hk Ql2 hnl2 hel2
    have hs:=foldC_in ((o.ch.take k).map (·.2)) 0 (fun x hx=>by
      obtain ⟨c,hc',rfl⟩:=List.mem_map.1 hx;exact hc c (List.mem_of_mem_take hc')) (by unfold In41;decide)
    by_cases hk':k<o.ch.length
    · have hcc:=hc _ (getD_mem (d:=default) hk')
      have hst:=getD_foldl o.ch k hk'
      generalize ((o.ch.take k).map (·.2)).foldl addC 0=s at *
      have hadd:=add_ok s (o.ch.getD k default).2 hs hcc
      generalize hxx:o.ch.getD k default=x at *
      ((repeat' (first|refine Vc (X4 @hoo @hxx @eOpt.eq_1 @eCh.eq_1) hadd ?_|(refine Xi ?_ ?_<;>try intro ht)|exact Xx|fail)))
      exact hnl2 _ (k+1) (by omega) (by omega) (by simp only[hst];exact Xv X0)
    · have hfin:((o.ch.take k).map (·.2)).foldl addC 0=ownS o:=by rw[List.take_of_length_le (by omega)];rfl
      rw[hfin] at hs
      generalize ((o.ch.take k).map (·.2)).foldl addC 0=s at *
      ((repeat' (first|refine Va (X2 @hoo @eOpt.eq_1) ?_|(refine Xi ?_ ?_<;>try intro ht)|exact Xx|fail)))
      refine hel2 _ _ rfl ?_
      clear hnl2 hel2 Ql2
      repeat (refine Xu ?_)
      refine Va X0 ?_
      refine hnl _ (i+1,xs++[s]) ⟨by dsimp only;omega,by rw[hts,← hfin]⟩ (by dsimp only;omega) ?_
      exact Xs false [2] X0
  · rw[List.take_of_length_le (by omega)] at hxs
    subst hxs
    ((repeat' (first|refine Va X0 ?_|(refine Xi ?_ ?_<;>try intro ht)|exact Xx|fail)))
    refine hel _ _ rfl ?_;clear hnl hel Ql
    repeat (refine Xu ?_)
    refine Vb X0 ?_
    exact Xw true [] X0
theorem refFirst_ok (l:List Int) (hl:l.length≤1000):Holds Tryz.prog 119 [.tree 1 (ints l)] [] (.ref 0 2 0 (firstV l).length) [.arr 2 (rowsOf eNr (firstV l))]:=by
  refine Holds.of_body' (fn:=Tryz.f119) 25 0 [.tmp 2] Tryz.func119 rfl rfl rfl rfl rfl (by simp) ?_
  refine Vb X0 ?_
  refine W_loopS (fun z:Nat × List Nm=>(⟨slots [(0,.tree 1 (ints l)),(3,.ref 0 2 0 z.2.length),(4,.lit (.int .i64 z.1))],[.arr 2 (rowsOf eNr z.2)]⟩:St)) (fun z=>z.1≤l.length∧z.2=(firstV l).take z.1) (fun z=>l.length - z.1) (0,[]) ⟨Nat.zero_le _,rfl⟩ ?_ ?_
  · refine Turns.trans (Turns.nil 3 2 (by simp only[Kc,simprocAttr]) (by decide)) ?_
    exact Xv X0
  rintro ⟨i,xs⟩ ⟨hi,hxs⟩ Ql hnl hel
  dsimp only at hi hxs ⊢
  have hol:(firstV l).length=l.length:=by unfold firstV;simp
  by_cases hi':i<l.length
  · have hts:=take_snoc (l:=firstV l) (k:=i) (by omega)
    have hoi:(firstV l).getD i default=ofN (l.getD i 0):=by
      unfold firstV;rw[List.getD_eq_getElem?_getD,List.getElem?_map,List.getD_eq_getElem?_getD,List.getElem?_eq_getElem hi'];rfl
    have hlt:xs.length=i:=by rw[hxs,List.length_take];omega
    rw[hoi,← hxs] at hts
    generalize hoo:l.getD i 0=o at *
    ((repeat' (first|refine Va @hoo ?_|(refine Xi ?_ ?_<;>try intro ht)|exact Xx|fail)))
    refine hnl _ (i+1,xs++[ofN o]) ⟨by dsimp only;omega,hts.symm⟩ (by dsimp only;omega) ?_
    have eno:[[AV.lit (.bool (decide (o ≥ 1099511627776))),AV.lit (.int .i64 o)]]=rowsOf eNr [ofN o]:=rfl
    exact Xs false [2] (X2 @eno @rows_app)
  · rw[List.take_of_length_le (by omega)] at hxs
    subst hxs
    ((repeat' (first|refine Va X0 ?_|(refine Xi ?_ ?_<;>try intro ht)|exact Xx|fail)))
    refine hel _ _ rfl ?_;clear hnl hel Ql
    repeat (refine Xu ?_)
    refine Vb X0 ?_
    exact Xw false [0] X0
end T

