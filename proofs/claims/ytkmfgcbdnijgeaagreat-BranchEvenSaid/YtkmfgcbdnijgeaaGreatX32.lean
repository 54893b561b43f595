import Derived.Test.YtkmfgcbdnijgeaaGreatX17
import Derived.Test.YtkmfgcbdnijgeaaGreatX31
set_option linter.unusedVariables false
set_option linter.unusedSimpArgs false
set_option linter.unnecessarySimpa false
set_option linter.unusedSectionVars false
set_option maxHeartbeats 64000000
set_option maxRecDepth 20000
open Go Go.Am Go.Proofs
open Nat (reduceEqDiff reduceAdd reduceLeDiff reduceMul)
open Int (reduceNeg reduceLE reduceToNat)
namespace T
theorem evenCounts_ok (L:List Int) (d:Nat) (m:Mdl) (rooms:Nat) (hd:d≤L.length) (hL:L.length<1000000) (hb:m.cls.length≤24) (hrm:rooms≤24) (hrl:1<m.rules)
    (hl:∀ l∈m.cls,l.length≤24) :
    HoldsR Tryz.prog 46 [.ptr 0 0 0,.agg (eMdl m),.lit (.int .i64 rooms)] [dice L d] (fun r os=>∃ cts d',d'≤L.length∧cts.length≤2 * rooms∧(∀ c∈cts,ctB ⟨m.cls,[],[],m.rules⟩ c=true)∧r=.tree 4 (rowsOf eCt cts)∧os=[dice L d']):=by
  unfold dice
  have hgl:∀ i,(m.cls.getD i default).length≤24:=fun i=>by
    rcases Nat.lt_or_ge i m.cls.length with h | h
    · exact hl _ (getD_mem (d:=default) h)
    · rw[List.getD_eq_getElem?_getD,List.getElem?_eq_none h];decide
  refine HoldsR.of_body' (fn:=Tryz.f46) 102 1 [.tmp 6] Tryz.func46 rfl rfl rfl rfl rfl (by simp) ?_
  ((try revert hK K);(repeat' (first|refine Vb X0 ?_|(refine V2 X0 ?_ ?_<;>try with_reducible intro hb)|(refine Xi ?_ ?_<;>try intro ht)|refine VD ?_ ?_|exact Xx|fail))<;>try with_reducible intro K hK)
  refine W_loopS (fun z:Nat × Nat × List Int=>(⟨slots [(0,.ptr 0 0 0),(2,.lit (.int .i64 rooms)),(4,.ptr 1 0 0),(7,.ref 2 1 0 z.2.2.length),(8,.lit (.int .i64 z.1))],[.var [.tree 1 (ints L),.lit (.int .i64 z.2.1)],.var (eMdl m),.arr 1 (ints z.2.2)]⟩:St))
    (fun z=>z.1≤m.cls.length∧z.2.1≤L.length∧z.2.2.length=z.1∧∀ x∈z.2.2,1≤x∧x≤3) (fun z=>m.cls.length - z.1) (0,d,[]) ⟨Nat.zero_le _,hd,rfl,by simp⟩ ?_ ?_
  · refine Turns.trans (Turns.nil 7 1 (by simp only[Kc,simprocAttr]) (by decide)) ?_
    exact Xv X0
  clear hd
  rintro ⟨i,d,ws⟩ ⟨hi,hd,hwl,hws⟩ Ql hnl hel
  dsimp only at hi hd hwl hws ⊢
  by_cases hi':i<m.cls.length
  · ((try revert hK K);(repeat' (first|refine Va X0 ?_|(refine V2 X0 ?_ ?_<;>try with_reducible intro hb)|(refine Xi ?_ ?_<;>try intro ht)|refine VD ?_ ?_|exact Xx|fail))<;>try with_reducible intro K hK)
    refine callK_sel [0] (next_ok L d 3 (by unfold In64;omega) hd hL) (by decide) ⟨rfl,trivial⟩ ⟨.eq rfl,.pure rfl,trivial⟩ ?_
    have hn1:=nextV_range (L:=L) (k:=d) (n:=3) (by omega)
    have hd2:=nextA_le hd
    generalize nextV L d 3=n1 at *
    generalize nextA L d=d2 at *
    clear hd
    ((try revert hK K);(repeat' (first|refine Va X0 ?_|(refine V2 X0 ?_ ?_<;>try with_reducible intro hb)|(refine Xi ?_ ?_<;>try intro ht)|refine VD ?_ ?_|exact Xx|fail))<;>try with_reducible intro K hK)
    refine hnl _ (i+1,d2,ws++[1+n1]) ⟨by dsimp only;omega,hd2,by simp;omega,fun x hx=>?_⟩ (by dsimp only;omega) (Xs false [0,1,4] X0)
    rcases List.mem_append.1 hx with h | h
    · exact hws x h
    · rw[List.mem_singleton.1 h];omega
  obtain rfl:i=m.cls.length:=by omega
  ((try revert hK K);(repeat' (first|refine Va X0 ?_|(refine V2 X0 ?_ ?_<;>try with_reducible intro hb)|(refine Xi ?_ ?_<;>try intro ht)|refine VD ?_ ?_|exact Xx|fail))<;>try with_reducible intro K hK)
  refine hel _ _ rfl ?_;clear hnl hel Ql
  repeat (first|refine Xu ?_)
  clear hi hi'
  refine W_turn (σ':=⟨slots [(0,.ptr 0 0 0),(2,.lit (.int .i64 rooms)),(4,.ptr 1 0 0),(7,.tree 1 (ints ws))],[.var [.tree 1 (ints L),.lit (.int .i64 d)],.var (eMdl m)]⟩) (Xs true [0,1] X0) ?_
  ((try revert hK K);(repeat' (first|refine Va X0 ?_|(refine V2 X0 ?_ ?_<;>try with_reducible intro hb)|(refine Xi ?_ ?_<;>try intro ht)|refine VD ?_ ?_|exact Xx|fail))<;>try with_reducible intro K hK)
  refine W_loopS (fun z:Nat × Nat × List Ct=>(⟨slots [(0,.ptr 0 0 0),(2,.lit (.int .i64 rooms)),(4,.ptr 1 0 0),(7,.tree 1 (ints ws)),(9,.ref 2 4 0 z.2.2.length),(10,.lit (.int .i64 z.1))],[.var [.tree 1 (ints L),.lit (.int .i64 z.2.1)],.var (eMdl m),.arr 4 (rowsOf eCt z.2.2)]⟩:St))
    (fun z=>z.1≤2∧z.2.1≤L.length∧z.2.2.length≤z.1 * rooms∧∀ x∈z.2.2,ctB ⟨m.cls,[],[],m.rules⟩ x=true) (fun z=>2 - z.1) (0,d,[]) ⟨Nat.zero_le _,hd,Nat.zero_le _,by simp⟩ ?_ ?_
  · refine Turns.trans (Turns.nil 9 4 (by simp only[Kc,simprocAttr]) (by decide)) ?_
    exact Xv X0
  clear hd
  rintro ⟨t,d,cts⟩ ⟨ht',hd,hcl,hcts⟩ Ql hnl hel
  dsimp only at ht' hd hcl hcts ⊢
  by_cases ht2:t<2
  · have htr:t * rooms≤24:=by
      have:t * rooms≤1 * rooms:=Nat.mul_le_mul_right _ (by omega)
      omega
    have htr1:(t+1) * rooms=t * rooms+rooms:=by rw[Nat.add_mul,Nat.one_mul]
    generalize t * rooms=tr at *
    ((try revert hK K);(repeat' (first|refine Va X0 ?_|(refine V2 X0 ?_ ?_<;>try with_reducible intro hb)|(refine Xi ?_ ?_<;>try intro ht)|refine VD ?_ ?_|exact Xx|fail))<;>try with_reducible intro K hK)
    refine callK_sel [0] (next_ok L d 5 (by unfold In64;omega) hd hL) (by decide) ⟨rfl,trivial⟩ ⟨.eq rfl,.pure rfl,trivial⟩ ?_
    have hn2:=nextV_range (L:=L) (k:=d) (n:=5) (by omega)
    have hd2:=nextA_le hd
    generalize nextV L d 5=n2 at *
    generalize nextA L d=d2 at *
    clear hd
    ((try revert hK K);(repeat' (first|refine Va X0 ?_|(refine V2 X0 ?_ ?_<;>try with_reducible intro hb)|(refine Xi ?_ ?_<;>try intro ht)|refine VD ?_ ?_|exact Xx|fail))<;>try with_reducible intro K hK)
    refine callK_sel [0] (ecost_ok L d2 hd2 hL) (by decide) ⟨rfl,trivial⟩ ⟨.eq rfl,trivial⟩ ?_
    obtain ⟨hv1,hv2,hv3⟩:=ecV_range L d2
    have hd:=ecA_le hd2
    generalize ecV L d2=cv at *
    generalize ecA L d2=d at *
    clear hd2
    have hpen:priceB (max 1 cv)=true:=by
      by_cases h0:0<cv
      · rw[show max 1 cv=cv by omega];exact hv3 h0
      · rw[show max 1 cv=1 by omega];decide
    generalize hpp:max 1 cv=pen at *
    unfold dice
    ((try revert hK K);(repeat' (first|refine Va @hpp ?_|(refine V2 @hpp ?_ ?_<;>try with_reducible intro hb)|(refine Xi ?_ ?_<;>try intro ht)|refine VD ?_ ?_|exact Xx|fail))<;>try with_reducible intro K hK)
    refine W_loopS (fun z:Nat × List Ct=>(⟨slots [(0,.ptr 0 0 0),(2,.lit (.int .i64 rooms)),(4,.ptr 1 0 0),(7,.tree 1 (ints ws)),(9,.ref 2 4 0 z.2.length),(10,.lit (.int .i64 t)),(11,.lit (.int .i64 n2)),(12,.lit (.int .i64 pen)),(13,.lit (.int .i64 z.1))],[.var [.tree 1 (ints L),.lit (.int .i64 d)],.var (eMdl m),.arr 4 (rowsOf eCt z.2)]⟩:St))
      (fun z=>z.1≤rooms∧z.2.length≤tr+z.1∧∀ x∈z.2,ctB ⟨m.cls,[],[],m.rules⟩ x=true) (fun z=>rooms - z.1) (0,cts) ⟨Nat.zero_le _,by dsimp only;omega,hcts⟩ (Xv X0) ?_
    clear hcl hcts
    rintro ⟨r,cts⟩ ⟨hr,hcl,hcts⟩ Ql2 hnl2 hel2
    dsimp only at hr hcl hcts ⊢
    by_cases hr':r<rooms
    · ((try revert hK K);(repeat' (first|refine Va X0 ?_|(refine V2 X0 ?_ ?_<;>try with_reducible intro hb)|(refine Xi ?_ ?_<;>try intro ht)|refine VD ?_ ?_|exact Xx|fail))<;>try with_reducible intro K hK)
      refine W_loopS (fun z:Nat × List Ld=>(⟨slots [(0,.ptr 0 0 0),(2,.lit (.int .i64 rooms)),(4,.ptr 1 0 0),(7,.tree 1 (ints ws)),(9,.ref 2 4 0 cts.length),(10,.lit (.int .i64 t)),(11,.lit (.int .i64 n2)),(12,.lit (.int .i64 pen)),(13,.lit (.int .i64 r)),(14,.ptr 3 0 0),(15,.lit (.int .i64 z.1))],
          [.var [.tree 1 (ints L),.lit (.int .i64 d)],.var (eMdl m),.arr 4 (rowsOf eCt cts),.var [.lit (.int .i64 1),.ref 4 3 0 z.2.length,.lit (.int .i64 n2),.lit (.int .i64 pen)],.arr 3 (rowsOf eLd z.2)]⟩:St))
        (fun z=>z.1≤m.cls.length∧LInv m.cls m.rules z.2 z.1 0) (fun z=>m.cls.length - z.1) (0,[]) ⟨Nat.zero_le _,rfl,by simp,by simp⟩ ?_ ?_
      · refine Turns.trans (Turns.nilC 3 1 3 rfl rfl (by decide)) ?_
        exact Xv X0
      rintro ⟨i,lds⟩ ⟨hi,hI⟩ Ql3 hnl3 hel3
      dsimp only at hi hI ⊢
      by_cases hi':i<m.cls.length
      · have hli:=hgl i
        have hwi:=hws _ (getD_mem (l:=ws) (i:=i) (d:=0) (by omega))
        generalize hwx:ws.getD i 0=w at *
        generalize hll:m.cls.getD i default=li at *
        ((try revert hK K);(repeat' (first|refine Va @hll ?_|(refine V2 @hll ?_ ?_<;>try with_reducible intro hb)|(refine Xi ?_ ?_<;>try intro ht)|refine VD ?_ ?_|exact Xx|fail))<;>try with_reducible intro K hK)
        refine W_loopS (fun z:Nat × List Ld=>(⟨slots [(0,.ptr 0 0 0),(2,.lit (.int .i64 rooms)),(4,.ptr 1 0 0),(7,.tree 1 (ints ws)),(9,.ref 2 4 0 cts.length),(10,.lit (.int .i64 t)),(11,.lit (.int .i64 n2)),(12,.lit (.int .i64 pen)),(13,.lit (.int .i64 r)),(14,.ptr 3 0 0),(15,.lit (.int .i64 i)),(16,.lit (.int .i64 z.1))],
            [.var [.tree 1 (ints L),.lit (.int .i64 d)],.var (eMdl m),.arr 4 (rowsOf eCt cts),.var [.lit (.int .i64 1),.ref 4 3 0 z.2.length,.lit (.int .i64 n2),.lit (.int .i64 pen)],.arr 3 (rowsOf eLd z.2)]⟩:St))
          (fun z=>z.1≤li.length∧LInv m.cls m.rules z.2 i z.1) (fun z=>li.length - z.1) (0,lds) ⟨Nat.zero_le _,hI⟩ (Xv X0) ?_
        clear hI
        rintro ⟨j,lds⟩ ⟨hj,hI⟩ Ql4 hnl4 hel4
        dsimp only at hj hI ⊢
        have hlln:=hI.len
        by_cases hj':j<li.length
        · generalize hoo:li.getD j default=o at *
          ((try revert hK K);(repeat' (first|refine Va (X3 @hll @hoo @hwx) ?_|(refine V2 (X3 @hll @hoo @hwx) ?_ ?_<;>try with_reducible intro hb)|(refine Xi ?_ ?_<;>try intro ht)|refine VD ?_ ?_|exact Xx|fail))<;>try with_reducible intro K hK)
          · rw[show rowsOf eLd lds++[[AV.lit (.int .i64 i),AV.lit (.int .i64 j),AV.lit (.int .i64 w)]]=rowsOf eLd (lds++[⟨i,j,w⟩]) from rows_app1 (enc:=eLd) lds ⟨i,j,w⟩]
            refine hnl4 _ (j+1,lds++[⟨i,j,w⟩]) ⟨by dsimp only;omega,hI.app hi' (by rw[hll];exact hj') ⟨by omega,by omega⟩⟩ (by dsimp only;omega) ?_
            exact Xs false [0,1,2,3,7] X0
          all_goals exact hnl4 _ (j+1,lds) ⟨by dsimp only;omega,hI.mono (by omega) (by omega)⟩ (by dsimp only;omega) (Xs false [0,1,2,3,4] X0)
        · ((try revert hK K);(repeat' (first|refine Va @hll ?_|(refine V2 @hll ?_ ?_<;>try with_reducible intro hb)|(refine Xi ?_ ?_<;>try intro ht)|refine VD ?_ ?_|exact Xx|fail))<;>try with_reducible intro K hK)
          refine hel4 _ _ rfl ?_
          clear hnl4 hel4 Ql4
          repeat (first|refine Xu ?_)
          ((try revert hK K);(repeat' (first|refine Va X0 ?_|(refine V2 X0 ?_ ?_<;>try with_reducible intro hb)|(refine Xi ?_ ?_<;>try intro ht)|refine VD ?_ ?_|exact Xx|fail))<;>try with_reducible intro K hK)
          exact hnl3 _ (i+1,lds) ⟨by dsimp only;omega,hI.mono (by omega) (by omega)⟩ (by dsimp only;omega) (Xv X0)
      · ((try revert hK K);(repeat' (first|refine Va X0 ?_|(refine V2 X0 ?_ ?_<;>try with_reducible intro hb)|(refine Xi ?_ ?_<;>try intro ht)|refine VD ?_ ?_|exact Xx|fail))<;>try with_reducible intro K hK)
        refine hel3 _ _ rfl ?_
        clear hnl3 hel3 Ql3
        repeat (first|refine Xu ?_)
        refine W_turn (Turns.frzV 4 3 1 3 rfl rfl (by rw[rows_length];rfl) (rows_wid _) (rows_frz _)) ?_
        refine W_turn (σ':=⟨slots [(0,.ptr 0 0 0),(2,.lit (.int .i64 rooms)),(4,.ptr 1 0 0),(7,.tree 1 (ints ws)),(9,.ref 2 4 0 cts.length),(10,.lit (.int .i64 t)),(11,.lit (.int .i64 n2)),(12,.lit (.int .i64 pen)),(13,.lit (.int .i64 r)),(14,.ptr 3 0 0)],
            [.var [.tree 1 (ints L),.lit (.int .i64 d)],.var (eMdl m),.arr 4 (rowsOf eCt cts),.var (eCt ⟨1,lds,n2,pen⟩),.gone]⟩) (Xv X0) ?_
        ((try revert hK K);(repeat' (first|refine Va X0 ?_|(refine V2 X0 ?_ ?_<;>try with_reducible intro hb)|(refine Xi ?_ ?_<;>try intro ht)|refine VD ?_ ?_|exact Xx|fail))<;>try with_reducible intro K hK)
        rw[show rowsOf eCt cts++[[AV.lit (.int .i64 1),AV.tree 3 (rowsOf eLd lds),AV.lit (.int .i64 n2),AV.lit (.int .i64 pen)]]=rowsOf eCt (cts++[⟨1,lds,n2,pen⟩]) from rows_app1 (enc:=eCt) cts ⟨1,lds,n2,pen⟩]
        refine hnl2 _ (r+1,cts++[⟨1,lds,n2,pen⟩]) ⟨by dsimp only;omega,by simp;omega,fun x hx=>?_⟩ (by dsimp only;omega) ?_
        · rcases List.mem_append.1 hx with hx | hx
          · exact hcts x hx
          · simp only[List.mem_singleton] at hx
            subst hx
            unfold ctB ruleB
            simp only[Bool.and_eq_true,decide_eq_true_eq]
            exact⟨⟨⟨by omega,by omega⟩,hpen⟩,hI.ok⟩
        · exact Xs false [0,1,6] X0
    · ((try revert hK K);(repeat' (first|refine Va X0 ?_|(refine V2 X0 ?_ ?_<;>try with_reducible intro hb)|(refine Xi ?_ ?_<;>try intro ht)|refine VD ?_ ?_|exact Xx|fail))<;>try with_reducible intro K hK)
      refine hel2 _ _ rfl ?_
      clear hnl2 hel2 Ql2
      repeat (first|refine Xu ?_)
      ((try revert hK K);(repeat' (first|refine Va X0 ?_|(refine V2 X0 ?_ ?_<;>try with_reducible intro hb)|(refine Xi ?_ ?_<;>try intro ht)|refine VD ?_ ?_|exact Xx|fail))<;>try with_reducible intro K hK)
      exact hnl _ (t+1,d,cts) ⟨by dsimp only;omega,hd,by dsimp only;omega,hcts⟩ (by dsimp only;omega) (Xv X0)
  obtain rfl:t=2:=by omega
  ((try revert hK K);(repeat' (first|refine Va X0 ?_|(refine V2 X0 ?_ ?_<;>try with_reducible intro hb)|(refine Xi ?_ ?_<;>try intro ht)|refine VD ?_ ?_|exact Xx|fail))<;>try with_reducible intro K hK)
  refine hel _ _ rfl ?_;clear hnl hel Ql
  repeat (first|refine Xu ?_)
  ((try revert hK K);(repeat' (first|refine Va X0 ?_|(refine V2 X0 ?_ ?_<;>try with_reducible intro hb)|(refine Xi ?_ ?_<;>try intro ht)|refine VD ?_ ?_|exact Xx|fail))<;>try with_reducible intro K hK)
  unfold retR
  simp only[resW,retV]
  simp (disch:=omega) only[Ac,↓Pc,simprocAttr]
  refine⟨_,_,⟨cts,d,hd,hcl,hcts,rfl,rfl⟩,?_⟩
  exact Xw true [0] X0
structure EM (m:Mdl) (classes rooms:Nat):Prop where
  vm:VM m
  few:m.cls.length≤classes
  some:∀ l∈m.cls,1≤l.length∧l.length≤2 * rooms+1
  rul:m.rules=2
  cts:m.cts.length≤2 * rooms
def EOK (rooms:Nat) (l:List Opt):Prop:=∀ o∈l,chL 2 none o.ch=true∧0≤o.day∧o.day≤1
theorem EOK.app {rooms:Nat} {l:List Opt} (h:EOK rooms l) {o:Opt} (ho:chL 2 none o.ch=true∧0≤o.day∧o.day≤1):EOK rooms (l++[o]):=fun x hx=>by
  rcases List.mem_append.1 hx with h' | h'
  · exact h x h'
  · rw[List.mem_singleton.1 h'];exact ho
def zM:Ob:=.var [.lit (.slice none 0 0),.lit (.slice none 0 0),.lit (.slice none 0 0),.lit (.int .i64 0)]
theorem even_ok (L:List Int) (k:Nat) (classes rooms:Nat) (hk:k≤L.length) (hL:L.length<1000000) (hc:classes≤24) (hr:1≤rooms∧rooms≤11) :
    HoldsR Tryz.prog 20 [.ptr 0 0 0,.lit (.int .i64 classes),.lit (.int .i64 rooms)] [dice L k] (fun r os=>∃ m k',EM m classes rooms∧k'≤L.length∧r=.agg (eMdl m)∧os=[dice L k']):=by
  unfold dice
  refine HoldsR.of_body' (fn:=Tryz.f20) 105 1 [.cell 6 31] Tryz.func20 rfl rfl rfl rfl rfl (by simp) ?_
  ((try revert hK K);(repeat' (first|refine Vb X0 ?_|(refine V2 X0 ?_ ?_<;>try with_reducible intro hb)|(refine Xi ?_ ?_<;>try intro ht)|refine VD ?_ ?_|exact Xx|fail))<;>try with_reducible intro K hK)
  refine callK_sel [0] (next_ok L k (classes+1) (by unfold In64;omega) hk hL) (by decide) ⟨rfl,trivial⟩ ⟨.eq rfl,.pure rfl,trivial⟩ ?_
  have hnv:=nextV_range (L:=L) (k:=k) (n:=classes+1) (by omega)
  have hk2:=nextA_le hk
  generalize nextV L k (classes+1)=n at *
  generalize nextA L k=k2 at *
  clear hk
  obtain ⟨c0,rfl⟩ :∃c0:Nat,n=c0:=⟨n.toNat,by omega⟩
  ((try revert hK K);(repeat' (first|refine Vb X0 ?_|(refine V2 X0 ?_ ?_<;>try with_reducible intro hb)|(refine Xi ?_ ?_<;>try intro ht)|refine VD ?_ ?_|exact Xx|fail))<;>try with_reducible intro K hK)
  refine W_loopS (fun z:Nat × Nat × List (List Opt)=>(⟨slots [(0,.ptr 0 0 0),(2,.lit (.int .i64 rooms)),(6,.ptr 1 0 0),(7,.ptr 2 0 0),(8,.lit (.int .i64 z.1))],
      [.var [.tree 1 (ints L),.lit (.int .i64 z.2.1)],zM,.var [.ref 3 1 0 z.2.2.length,.lit (.slice none 0 0),.lit (.slice none 0 0),.lit (.int .i64 2)],.arr 1 (rowsOf eCls z.2.2)]⟩:St))
    (fun z=>z.1+z.2.2.length≤classes∧z.2.1≤L.length∧∀ l∈z.2.2,(1≤l.length∧l.length≤2 * rooms+1)∧EOK rooms l) (fun z=>z.1) (c0,k2,[]) ⟨by simp;omega,hk2,by simp⟩ ?_ ?_
  · refine Turns.trans (Turns.nilC 2 0 1 rfl rfl (by decide)) ?_
    unfold zM
    exact Xv X0
  clear hnv hk2
  rintro ⟨c,k,cls⟩ ⟨hcc,hk,hcls⟩ Ql hnl hel
  dsimp only at hcc hk hcls ⊢
  by_cases hc0:0<c
  · obtain ⟨c',rfl⟩ :∃c',c=c'+1:=⟨c - 1,by omega⟩
    have hc1:((c'+1:Nat):Int) - 1=c':=by omega
    ((try revert hK K);(repeat' (first|refine Va X0 ?_|(refine V2 X0 ?_ ?_<;>try with_reducible intro hb)|(refine Xi ?_ ?_<;>try intro ht)|refine VD ?_ ?_|exact Xx|fail))<;>try with_reducible intro K hK)
    refine W_loopS (fun z:Nat × Nat × List Opt=>(⟨slots [(0,.ptr 0 0 0),(2,.lit (.int .i64 rooms)),(6,.ptr 1 0 0),(7,.ptr 2 0 0),(8,.lit (.int .i64 (c'+1:Nat))),(9,.ref 4 6 0 z.2.2.length),(10,.lit (.int .i64 z.1))],
        [.var [.tree 1 (ints L),.lit (.int .i64 z.2.1)],zM,.var [.ref 3 1 0 cls.length,.lit (.slice none 0 0),.lit (.slice none 0 0),.lit (.int .i64 2)],.arr 1 (rowsOf eCls cls),.arr 6 (rowsOf eOpt z.2.2)]⟩:St))
      (fun z=>z.1≤2∧z.2.1≤L.length∧(0<z.1→1≤z.2.2.length)∧z.2.2.length≤z.1 * rooms∧EOK rooms z.2.2) (fun z=>2 - z.1) (0,k,[]) ⟨Nat.zero_le _,hk,fun h=>by simp at h,by simp,fun o ho=>by simp at ho⟩ ?_ ?_
    · refine Turns.trans (Turns.nil 9 6 (by simp only[Kc,simprocAttr]) (by decide)) ?_
      exact Xv X0
    clear hk
    rintro ⟨t,k,l⟩ ⟨ht',hk,hl1,hl2,hl3⟩ Ql2 hnl2 hel2
    dsimp only at ht' hk hl1 hl2 hl3 ⊢
    by_cases ht2:t<2
    · have htr:t * rooms≤rooms:=by
        have:t * rooms≤1 * rooms:=Nat.mul_le_mul_right _ (by omega)
        omega
      have htr1:(t+1) * rooms=t * rooms+rooms:=by rw[Nat.add_mul,Nat.one_mul]
      generalize t * rooms=tr at *
      have hone:=one_ok L k 3 (by unfold In64;omega) (by decide) hk hL
      have hka:=nextA_le hk
      generalize oneV L k 3=b1 at *
      generalize nextA L k=ka at *
      have hkx:(if t=1 then ka else k)≤L.length:=by split<;>omega
      repeat' (first|((fail_if_success (first|refine W_at 9 ?_|refine W_atE 9 ?_));refine Xr X0 ?_;intro K hK)|refine Xo X0 ?_|(refine hK _ ?_;clear hK K)|(refine Xg X0 ?_ ?_<;>try intro hb)|(refine Xi ?_ ?_<;>try intro ht)|refine Xy ?_|refine Xd ?_ ?_|exact Xx|fail)
      (first|refine unSq1 ?_|refine unSqB ?_);intro Q0 hn0 he0
      refine join_here ⟨slots [(0,.ptr 0 0 0),(2,.lit (.int .i64 rooms)),(6,.ptr 1 0 0),(7,.ptr 2 0 0),(8,.lit (.int .i64 (c'+1:Nat))),(9,.ref 4 6 0 l.length),(10,.lit (.int .i64 t))],
        [.var [.tree 1 (ints L),.lit (.int .i64 (if t=1 then ka else k:Nat))],zM,.var [.ref 3 1 0 cls.length,.lit (.slice none 0 0),.lit (.slice none 0 0),.lit (.int .i64 2)],.arr 1 (rowsOf eCls cls),.arr 6 (rowsOf eOpt l)]⟩ hn0 ?_ (fun key=>?_)
      rotate_left
      · (try clear hn0)
        have htt:t=0∨t=1:=by omega
        rcases htt with rfl | rfl
        · ((try revert hK K);(repeat' (first|refine Va X0 ?_|(refine V2 X0 ?_ ?_<;>try with_reducible intro hb)|(refine Xi ?_ ?_<;>try intro ht)|refine VD ?_ ?_|exact Xx|fail))<;>try with_reducible intro K hK)
          all_goals try (exfalso;omega)
          refine key _ ?_
          rw[if_neg (by omega)]
          exact Xv X0
        · ((try revert hK K);(repeat' (first|refine Va X0 ?_|(refine V2 X0 ?_ ?_<;>try with_reducible intro hb)|(refine Xi ?_ ?_<;>try intro ht)|refine VD ?_ ?_|exact Xx|fail))<;>try with_reducible intro K hK)
          all_goals try (exfalso;omega)
          (refine Xn [0] (hone) ?_;simp (disch:=omega) only[Ac,↓Pc,simprocAttr])
          ((try revert hK K);(repeat' (first|refine Va X0 ?_|(refine V2 X0 ?_ ?_<;>try with_reducible intro hb)|(refine Xi ?_ ?_<;>try intro ht)|refine VD ?_ ?_|exact Xx|fail))<;>try with_reducible intro K hK)
          · refine he0 _ _ rfl ?_
            repeat (first|refine Xu ?_)
            ((try revert hK K);(repeat' (first|refine Va X0 ?_|(refine V2 X0 ?_ ?_<;>try with_reducible intro hb)|(refine Xi ?_ ?_<;>try intro ht)|refine VD ?_ ?_|exact Xx|fail))<;>try with_reducible intro K hK)
            exact hnl2 _ (2,ka,l) ⟨by dsimp only;omega,hka,fun _=>hl1 (by omega),by dsimp only;omega,hl3⟩ (by dsimp only;omega) (Xv X0)
          · refine key _ ?_
            rw[if_pos rfl]
            exact Xv X0
      (try clear hn;try clear he;try clear Q;try clear hn0;try clear he0;try clear Q0)
      generalize (if t=1 then ka else k)=kx at *
      clear hone hka hk
      ((try revert hK K);(repeat' (first|refine Va X0 ?_|(refine V2 X0 ?_ ?_<;>try with_reducible intro hb)|(refine Xi ?_ ?_<;>try intro ht)|refine VD ?_ ?_|exact Xx|fail))<;>try with_reducible intro K hK)
      refine callK_sel [0] (ecost_ok L kx hkx hL) (by decide) ⟨rfl,trivial⟩ ⟨.eq rfl,trivial⟩ ?_
      obtain ⟨hv1,hv2,hv3⟩:=ecV_range L kx
      have hk:=ecA_le hkx
      generalize ecV L kx=cv at *
      generalize ecA L kx=k at *
      clear hkx
      unfold dice
      ((try revert hK K);(repeat' (first|refine Va X0 ?_|(refine V2 X0 ?_ ?_<;>try with_reducible intro hb)|(refine Xi ?_ ?_<;>try intro ht)|refine VD ?_ ?_|exact Xx|fail))<;>try with_reducible intro K hK)
      refine W_loopS (fun z:Nat × List Opt=>(⟨slots [(0,.ptr 0 0 0),(2,.lit (.int .i64 rooms)),(6,.ptr 1 0 0),(7,.ptr 2 0 0),(8,.lit (.int .i64 (c'+1:Nat))),(9,.ref 4 6 0 z.2.length),(10,.lit (.int .i64 t)),(11,.lit (.int .i64 cv)),(12,.lit (.int .i64 z.1))],
          [.var [.tree 1 (ints L),.lit (.int .i64 k)],zM,.var [.ref 3 1 0 cls.length,.lit (.slice none 0 0),.lit (.slice none 0 0),.lit (.int .i64 2)],.arr 1 (rowsOf eCls cls),.arr 6 (rowsOf eOpt z.2)]⟩:St))
        (fun z=>z.1≤rooms∧z.1≤z.2.length∧z.2.length≤tr+z.1∧EOK rooms z.2) (fun z=>rooms - z.1) (0,l) ⟨Nat.zero_le _,Nat.zero_le _,by dsimp only;omega,hl3⟩ (Xv X0) ?_
      clear hl1 hl2 hl3
      rintro ⟨r,l⟩ ⟨hr1,hl1,hl2,hl3⟩ Ql3 hnl3 hel3
      dsimp only at hr1 hl1 hl2 hl3 ⊢
      by_cases hr':r<rooms
      · repeat' (first|((fail_if_success (first|refine W_at 17 ?_|refine W_atE 17 ?_));refine Xr X0 ?_;intro K hK)|refine Xo X0 ?_|(refine hK _ ?_;clear hK K)|(refine Xg X0 ?_ ?_<;>try intro hb)|(refine Xi ?_ ?_<;>try intro ht)|refine Xy ?_|refine Xd ?_ ?_|exact Xx|fail)
        · refine W_turn (Turns.frzV 6 5 5 2 (rows:=[[.lit (.int .i64 0),.lit (.int .i64 cv)]]) rfl rfl rfl (by simp) (by simp)) ?_
          refine W_turn (σ':=⟨slots [(0,.ptr 0 0 0),(2,.lit (.int .i64 rooms)),(6,.ptr 1 0 0),(7,.ptr 2 0 0),(8,.lit (.int .i64 (c'+1:Nat))),(9,.ref 4 6 0 l.length),(10,.lit (.int .i64 t)),(11,.lit (.int .i64 cv)),(12,.lit (.int .i64 r)),(13,.ptr 5 0 0)],
            [.var [.tree 1 (ints L),.lit (.int .i64 k)],zM,.var [.ref 3 1 0 cls.length,.lit (.slice none 0 0),.lit (.slice none 0 0),.lit (.int .i64 2)],.arr 1 (rowsOf eCls cls),.arr 6 (rowsOf eOpt l),.var (eOpt ⟨1,t,0,1,r,[(0,cv)]⟩),.gone]⟩) (Xv X0) ?_
          ((try revert hK K);(repeat' (first|refine Va X0 ?_|(refine V2 X0 ?_ ?_<;>try with_reducible intro hb)|(refine Xi ?_ ?_<;>try intro ht)|refine VD ?_ ?_|exact Xx|fail))<;>try with_reducible intro K hK)
          rw[show rowsOf eOpt l++[[AV.lit (.int .i64 1),AV.lit (.int .i64 t),AV.lit (.int .i64 0),AV.lit (.int .i64 1),AV.lit (.int .i64 r),AV.tree 2 (rowsOf eCh [(0,cv)])]]=rowsOf eOpt (l++[⟨1,t,0,1,r,[(0,cv)]⟩]) from rows_app1 (enc:=eOpt) l ⟨1,t,0,1,r,[(0,cv)]⟩]
          refine hnl3 _ (r+1,l++[⟨1,t,0,1,r,[(0,cv)]⟩]) ⟨by dsimp only;omega,by simp;omega,by simp;omega,hl3.app ⟨?_,by dsimp only;omega,by dsimp only;omega⟩⟩ (by dsimp only;omega) (by unfold zM;exact Xs false [0,1,2,3,8] X0)
          simp only[chL,Bool.and_true,Bool.and_eq_true,ruleB,decide_eq_true_eq]
          exact⟨by omega,hv3 (by omega)⟩
        · refine W_turn (Turns.nilC 5 5 2 rfl rfl (by decide)) ?_
          refine W_turn (Turns.frzV 6 5 5 2 (rows:=[]) rfl rfl rfl (by simp) (by simp)) ?_
          refine W_turn (σ':=⟨slots [(0,.ptr 0 0 0),(2,.lit (.int .i64 rooms)),(6,.ptr 1 0 0),(7,.ptr 2 0 0),(8,.lit (.int .i64 (c'+1:Nat))),(9,.ref 4 6 0 l.length),(10,.lit (.int .i64 t)),(11,.lit (.int .i64 cv)),(12,.lit (.int .i64 r)),(13,.ptr 5 0 0)],
            [.var [.tree 1 (ints L),.lit (.int .i64 k)],zM,.var [.ref 3 1 0 cls.length,.lit (.slice none 0 0),.lit (.slice none 0 0),.lit (.int .i64 2)],.arr 1 (rowsOf eCls cls),.arr 6 (rowsOf eOpt l),.var (eOpt ⟨1,t,0,1,r,[]⟩),.gone]⟩) (Xv X0) ?_
          ((try revert hK K);(repeat' (first|refine Va X0 ?_|(refine V2 X0 ?_ ?_<;>try with_reducible intro hb)|(refine Xi ?_ ?_<;>try intro ht)|refine VD ?_ ?_|exact Xx|fail))<;>try with_reducible intro K hK)
          rw[show rowsOf eOpt l++[[AV.lit (.int .i64 1),AV.lit (.int .i64 t),AV.lit (.int .i64 0),AV.lit (.int .i64 1),AV.lit (.int .i64 r),AV.tree 2 (rowsOf eCh [])]]=rowsOf eOpt (l++[⟨1,t,0,1,r,[]⟩]) from rows_app1 (enc:=eOpt) l ⟨1,t,0,1,r,[]⟩]
          exact hnl3 _ (r+1,l++[⟨1,t,0,1,r,[]⟩]) ⟨by dsimp only;omega,by simp;omega,by simp;omega,hl3.app ⟨rfl,by dsimp only;omega,by dsimp only;omega⟩⟩ (by dsimp only;omega) (by unfold zM;exact Xs false [0,1,2,3,8] X0)
      · ((try revert hK K);(repeat' (first|refine Va X0 ?_|(refine V2 X0 ?_ ?_<;>try with_reducible intro hb)|(refine Xi ?_ ?_<;>try intro ht)|refine VD ?_ ?_|exact Xx|fail))<;>try with_reducible intro K hK)
        refine hel3 _ _ rfl ?_
        clear hnl3 hel3 Ql3
        repeat (first|refine Xu ?_)
        ((try revert hK K);(repeat' (first|refine Va X0 ?_|(refine V2 X0 ?_ ?_<;>try with_reducible intro hb)|(refine Xi ?_ ?_<;>try intro ht)|refine VD ?_ ?_|exact Xx|fail))<;>try with_reducible intro K hK)
        exact hnl2 _ (t+1,k,l) ⟨by dsimp only;omega,hk,fun _=>by dsimp only;omega,by dsimp only;omega,hl3⟩ (by dsimp only;omega) (Xv X0)
    · obtain rfl:t=2:=by omega
      ((try revert hK K);(repeat' (first|refine Va X0 ?_|(refine V2 X0 ?_ ?_<;>try with_reducible intro hb)|(refine Xi ?_ ?_<;>try intro ht)|refine VD ?_ ?_|exact Xx|fail))<;>try with_reducible intro K hK)
      refine hel2 _ _ rfl ?_
      clear hnl2 hel2 Ql2
      repeat (first|refine Xu ?_)
      ((try revert hK K);(repeat' (first|refine Va X0 ?_|(refine V2 X0 ?_ ?_<;>try with_reducible intro hb)|(refine Xi ?_ ?_<;>try intro ht)|refine VD ?_ ?_|exact Xx|fail))<;>try with_reducible intro K hK)
      refine callK_sel [0] (one_ok L k 3 (by unfold In64;omega) (by decide) hk hL) (by decide) ⟨rfl,trivial⟩ ⟨.eq rfl,.pure rfl,trivial⟩ ?_
      have hk2:=nextA_le hk
      generalize oneV L k 3=b at *
      generalize nextA L k=k2 at *
      clear hk
      repeat' (first|((fail_if_success (first|refine W_at 20 ?_|refine W_atE 20 ?_));refine Xr X0 ?_;intro K hK)|refine Xo X0 ?_|(refine hK _ ?_;clear hK K)|(refine Xg X0 ?_ ?_<;>try intro hb)|(refine Xi ?_ ?_<;>try intro ht)|refine Xy ?_|refine Xd ?_ ?_|exact Xx|fail)
      · have e:=rows_app1 (enc:=eOpt) l ⟨2,0,0,1,-1,[]⟩
        refine W_turn (σ':=⟨slots [(0,.ptr 0 0 0),(2,.lit (.int .i64 rooms)),(6,.ptr 1 0 0),(7,.ptr 2 0 0),(8,.lit (.int .i64 (c'+1:Nat))),(9,.tree 6 (rowsOf eOpt (l++[⟨2,0,0,1,-1,[]⟩])))],
          [.var [.tree 1 (ints L),.lit (.int .i64 k2)],zM,.var [.ref 3 1 0 cls.length,.lit (.slice none 0 0),.lit (.slice none 0 0),.lit (.int .i64 2)],.arr 1 (rowsOf eCls cls)]⟩) ?_ ?_
        · unfold zM
          (refine Turns.se [0,1,2,3] true (by simp only[Oc,simprocAttr]) ?_;simp only[Hr,↓reduceIte,reduceEqDiff,Nat.reduceBEq,reduceAdd];try (and_intros<;>first|exact .pure rfl|exact .eq rfl|exact .fz rfl (by simp only[Bc,Rc])))
          and_intros
          all_goals first|first|exact .pure rfl|exact .eq rfl|exact .fz rfl (by simp only[Bc,Rc])|skip
          rw[← e]
          exact .snap _ _ rfl (Frz.mk rfl (by simp only[Bc,Rc]) (not_kept (by decide)) (by rw[e];exact rows_wid _) (rowsR_app (rowsR_flat (rows_frz _)) ⟨⟨.lit _,.lit _,.lit _,.lit _,.lit _,.nil 2,trivial⟩,trivial⟩))
        ((try revert hK K);(repeat' (first|refine Va @hc1 ?_|(refine V2 @hc1 ?_ ?_<;>try with_reducible intro hb)|(refine Xi ?_ ?_<;>try intro ht)|refine VD ?_ ?_|exact Xx|fail))<;>try with_reducible intro K hK)
        have e2:=rows_app1 (enc:=eCls) cls (l++[(⟨2,0,0,1,-1,[]⟩:Opt)])
        simp only[eCls] at e2
        rw[e2]
        refine hnl _ (c',k2,cls++[l++[⟨2,0,0,1,-1,[]⟩]]) ⟨by simp;omega,hk2,fun x hx=>?_⟩ (by dsimp only;omega) (by unfold zM;exact Xs false [0,1,2,5] X0)
        rcases List.mem_append.1 hx with h | h
        · exact hcls x h
        · rw[List.mem_singleton.1 h]
          exact⟨by simp;omega,hl3.app ⟨rfl,by decide,by decide⟩⟩
      · refine W_turn (σ':=⟨slots [(0,.ptr 0 0 0),(2,.lit (.int .i64 rooms)),(6,.ptr 1 0 0),(7,.ptr 2 0 0),(8,.lit (.int .i64 (c'+1:Nat))),(9,.tree 6 (rowsOf eOpt l))],
          [.var [.tree 1 (ints L),.lit (.int .i64 k2)],zM,.var [.ref 3 1 0 cls.length,.lit (.slice none 0 0),.lit (.slice none 0 0),.lit (.int .i64 2)],.arr 1 (rowsOf eCls cls)]⟩) (by unfold zM;exact Xs true [0,1,2,3] X0) ?_
        ((try revert hK K);(repeat' (first|refine Va @hc1 ?_|(refine V2 @hc1 ?_ ?_<;>try with_reducible intro hb)|(refine Xi ?_ ?_<;>try intro ht)|refine VD ?_ ?_|exact Xx|fail))<;>try with_reducible intro K hK)
        rw[show rowsOf eCls cls++[[AV.tree 6 (rowsOf eOpt l)]]=rowsOf eCls (cls++[l]) from rows_app1 (enc:=eCls) cls l]
        refine hnl _ (c',k2,cls++[l]) ⟨by simp;omega,hk2,fun x hx=>?_⟩ (by dsimp only;omega) (by unfold zM;exact Xs false [0,1,2,5] X0)
        rcases List.mem_append.1 hx with h | h
        · exact hcls x h
        · rw[List.mem_singleton.1 h]
          exact⟨by omega,hl3⟩
  obtain rfl:c=0:=by omega
  ((try revert hK K);(repeat' (first|refine Va X0 ?_|(refine V2 X0 ?_ ?_<;>try with_reducible intro hb)|(refine Xi ?_ ?_<;>try intro ht)|refine VD ?_ ?_|exact Xx|fail))<;>try with_reducible intro K hK)
  refine hel _ _ rfl ?_;clear hnl hel Ql
  repeat (first|refine Xu ?_)
  refine W_turn (Turns.frzV 3 2 0 1 rfl rfl (by rw[rows_length];rfl) (rows_wid _) (rows_frz _)) ?_
  refine W_turn (Turns.nilC 2 1 4 rfl rfl (by decide)) ?_
  refine W_turn (σ':=⟨slots [(0,.ptr 0 0 0),(2,.lit (.int .i64 rooms)),(6,.ptr 1 0 0),(7,.ptr 2 0 0)],
      [.var [.tree 1 (ints L),.lit (.int .i64 k)],zM,.var [.tree 1 (rowsOf eCls cls),.ref 4 4 0 0,.lit (.slice none 0 0),.lit (.int .i64 2)],.gone,.arr 4 (rowsOf ePr [])]⟩) (by unfold zM;exact Xv X0) ?_
  refine W_turn (σ':=⟨slots [(0,.ptr 0 0 0),(2,.lit (.int .i64 rooms)),(6,.ptr 1 0 0),(7,.ptr 2 0 0)],
      [.var [.tree 1 (ints L),.lit (.int .i64 k)],zM,.var [.tree 1 (rowsOf eCls cls),.ref 3 4 0 0,.lit (.slice none 0 0),.lit (.int .i64 2)],.arr 4 (rowsOf ePr [])]⟩) (by unfold zM;exact Xs false [0,1,2,4] X0) ?_
  have hclf:∀ l∈cls,l.length≤24∧∀ o∈l,0≤o.day∧o.day≤1:=fun l hl=>by
    have h1:=hcls l hl
    exact⟨by omega,fun o ho=>(h1.2 o ho).2⟩
  ((try revert hK K);(repeat' (first|refine Va X0 ?_|(refine V2 X0 ?_ ?_<;>try with_reducible intro hb)|(refine Xi ?_ ?_<;>try intro ht)|refine VD ?_ ?_|exact Xx|fail))<;>try with_reducible intro K hK)
  refine W_loopS (fun z:Nat × Nat × List Pr=>(⟨slots [(0,.ptr 0 0 0),(2,.lit (.int .i64 rooms)),(6,.ptr 1 0 0),(7,.ptr 2 0 0),(14,.lit (.int .i64 z.1))],
      [.var [.tree 1 (ints L),.lit (.int .i64 z.2.1)],zM,.var [.tree 1 (rowsOf eCls cls),.ref 3 4 0 z.2.2.length,.lit (.slice none 0 0),.lit (.int .i64 2)],.arr 4 (rowsOf ePr z.2.2)]⟩:St))
    (fun z=>z.1≤cls.length∧z.2.1≤L.length∧PInv cls 2 z.2.2 1 z.1 0) (fun z=>cls.length - z.1) (0,k,[]) ⟨Nat.zero_le _,hk,rfl,by simp,by simp⟩ (Xv X0) ?_
  clear hk
  rintro ⟨i,k,prs⟩ ⟨hi,hk,hP⟩ Ql hnl hel
  dsimp only at hi hk hP ⊢
  by_cases hi':i<cls.length
  · ((try revert hK K);(repeat' (first|refine Va X0 ?_|(refine V2 X0 ?_ ?_<;>try with_reducible intro hb)|(refine Xi ?_ ?_<;>try intro ht)|refine VD ?_ ?_|exact Xx|fail))<;>try with_reducible intro K hK)
    refine W_loopS (fun z:Nat × Nat × List Pr=>(⟨slots [(0,.ptr 0 0 0),(2,.lit (.int .i64 rooms)),(6,.ptr 1 0 0),(7,.ptr 2 0 0),(14,.lit (.int .i64 i)),(15,.lit (.int .i64 z.1))],
        [.var [.tree 1 (ints L),.lit (.int .i64 z.2.1)],zM,.var [.tree 1 (rowsOf eCls cls),.ref 3 4 0 z.2.2.length,.lit (.slice none 0 0),.lit (.int .i64 2)],.arr 4 (rowsOf ePr z.2.2)]⟩:St))
      (fun z=>i<z.1∧z.1≤cls.length∧z.2.1≤L.length∧PInv cls 2 z.2.2 1 i z.1) (fun z=>cls.length - z.1) (i+1,k,prs) ⟨by dsimp only;omega,by dsimp only;omega,hk,hP.mono (by omega) (by omega)⟩ (Xv X0) ?_
    clear hk hP
    rintro ⟨j,k,prs⟩ ⟨hij,hj,hk,hP⟩ Ql2 hnl2 hel2
    dsimp only at hij hj hk hP ⊢
    by_cases hj':j<cls.length
    · have hpl:=hP.len
      have hev:=evenPair_ok L k cls prs 2 i j hk hL hi' hj' (by omega) hclf
      obtain ⟨htab,htl⟩:=evTab_ok L k (cls.getD i default) (cls.getD j default)
      have hk2:=ecAs_le hk
      generalize evTab L k (cls.getD i default) (cls.getD j default)=tab at *
      generalize ecAs L k=k2 at *
      unfold dice at hev
      repeat' (first|((fail_if_success (first|refine W_at 27 ?_|refine W_atE 27 ?_));refine Xr X0 ?_;intro K hK)|refine Xo X0 ?_|(refine hK _ ?_;clear hK K)|(refine Xg X0 ?_ ?_<;>try intro hb)|(refine Xi ?_ ?_<;>try intro ht)|refine Xy ?_|refine Xd ?_ ?_|exact Xx|fail)
      have e:=rows_app1 (enc:=ePr) prs ⟨i,j,1,tab⟩
      simp only[ePr] at e
      refine unB ?_;intro Qb hnb
      refine join_here ⟨slots [(0,.ptr 0 0 0),(2,.lit (.int .i64 rooms)),(6,.ptr 1 0 0),(7,.ptr 2 0 0),(14,.lit (.int .i64 i)),(15,.lit (.int .i64 j))],
        [.var [.tree 1 (ints L),.lit (.int .i64 k2)],zM,.var [.tree 1 (rowsOf eCls cls),.ref 3 4 0 (prs.length+1),.lit (.slice none 0 0),.lit (.int .i64 2)],.arr 4 (rowsOf ePr (prs++[⟨i,j,1,tab⟩]))]⟩ (fun s h=>hnb _ (hn _ h)) ?_ (fun key=>?_)
      rotate_left
      · refine W_draw [] (.take 2 (.take 3 (.take 4 (.take 5 (.both 0 (.both 1 (.take 6 (.take 7 (.take 8 (.take 9 (.take 10 .nil))))) 6 (.take 1 (.take 7 (.take 8 (.take 9 (.take 10 .nil)))))) 6 (.take 0 (.take 1 (.take 7 (.take 8 (.take 9 (.take 10 .nil))))))))))) rfl (by decide) (by decide +kernel) ?_
        simp (disch:=omega) only[Ac,↓Pc,simprocAttr,Pw]
        repeat' (first|with_reducible refine And.intro ?_ ?_|omega|with_reducible rfl)
        all_goals
          (refine Xn [0,3] (hev) ?_;simp (disch:=omega) only[Ac,↓Pc,simprocAttr,Pw])
          repeat' (first|with_reducible refine And.intro ?_ ?_|omega|with_reducible rfl)
        all_goals
          rw[e]
          refine key _ ?_
          unfold zM
          exact Xs false [0,1,2,5] X0
      ((try revert hK K);(repeat' (first|refine Va X0 ?_|(refine V2 X0 ?_ ?_<;>try with_reducible intro hb)|(refine Xi ?_ ?_<;>try intro ht)|refine VD ?_ ?_|exact Xx|fail))<;>try with_reducible intro K hK)
      refine hnl2 _ (j+1,k2,prs++[⟨i,j,1,tab⟩]) ⟨by dsimp only;omega,by dsimp only;omega,hk2,hP.app (pairB_mk (by decide) hij hj' htl htab)⟩ (by dsimp only;omega) (by unfold zM;exact Xs false [0,1,2,3] X0)
    · ((try revert hK K);(repeat' (first|refine Va X0 ?_|(refine V2 X0 ?_ ?_<;>try with_reducible intro hb)|(refine Xi ?_ ?_<;>try intro ht)|refine VD ?_ ?_|exact Xx|fail))<;>try with_reducible intro K hK)
      refine hel2 _ _ rfl ?_
      clear hnl2 hel2 Ql2
      repeat (first|refine Xu ?_)
      ((try revert hK K);(repeat' (first|refine Va X0 ?_|(refine V2 X0 ?_ ?_<;>try with_reducible intro hb)|(refine Xi ?_ ?_<;>try intro ht)|refine VD ?_ ?_|exact Xx|fail))<;>try with_reducible intro K hK)
      exact hnl _ (i+1,k,prs) ⟨by dsimp only;omega,hk,hP.mono (by omega) (by omega)⟩ (by dsimp only;omega) (Xv X0)
  have hpok:=hP.ok
  have hpln:prs.length≤4000:=by have:=hP.len;omega
  ((try revert hK K);(repeat' (first|refine Va X0 ?_|(refine V2 X0 ?_ ?_<;>try with_reducible intro hb)|(refine Xi ?_ ?_<;>try intro ht)|refine VD ?_ ?_|exact Xx|fail))<;>try with_reducible intro K hK)
  refine hel _ _ rfl ?_;clear hnl hel Ql
  repeat (first|refine Xu ?_)
  refine W_turn (Turns.frzV 3 2 1 4 rfl rfl (by rw[rows_length];rfl) (rows_wid _) (rows_frz _)) ?_
  refine W_turn (Turns.nilC 2 2 4 rfl rfl (by decide)) ?_
  refine W_turn (Turns.frzV 4 2 2 4 (rows:=[]) rfl rfl rfl (by simp) (by simp)) ?_
  refine W_turn (σ':=⟨slots [(0,.ptr 0 0 0),(2,.lit (.int .i64 rooms)),(6,.ptr 1 0 0),(7,.ptr 2 0 0)],
      [.var [.tree 1 (ints L),.lit (.int .i64 k)],zM,.var (eMdl ⟨cls,prs,[],2⟩),.gone,.gone]⟩) (by unfold zM;exact Xv X0) ?_
  refine W_turn (σ':=⟨slots [(0,.ptr 0 0 0),(2,.lit (.int .i64 rooms)),(6,.ptr 1 0 0),(7,.ptr 2 0 0)],
      [.var [.tree 1 (ints L),.lit (.int .i64 k)],zM,.var (eMdl ⟨cls,prs,[],2⟩)]⟩) (by unfold zM;exact Xs false [0,1,2] X0) ?_
  ((try revert hK K);(repeat' (first|refine Va X0 ?_|(refine V2 X0 ?_ ?_<;>try with_reducible intro hb)|(refine Xi ?_ ?_<;>try intro ht)|refine VD ?_ ?_|exact Xx|fail))<;>try with_reducible intro K hK)
  have hone:=one_ok L k 2 (by unfold In64;omega) (by decide) hk hL
  have hk2:=nextA_le hk
  generalize oneV L k 2=b at *
  generalize nextA L k=k2 at *
  clear hk
  have hclf24:∀ l∈cls,l.length≤24:=fun l hl=>(hclf l hl).1
  have hvm:∀ cts:List Ct,cts.length≤2 * rooms→(∀ c∈cts,ctB ⟨cls,[],[],2⟩ c=true)→EM ⟨cls,prs,cts,2⟩ classes rooms:=fun cts h1 h2 =>
    ⟨⟨by dsimp only;omega,fun l hl=>(hclf l hl).1,hpln,by dsimp only;omega,by dsimp only;omega,fun l hl o ho=>((hcls l hl).2 o ho).1,(prsL_same _ _).trans hpok,fun c hc=>(ctB_same _).trans (h2 c hc)⟩,by dsimp only;omega,fun l hl=>(hcls l hl).1,rfl,h1⟩
  unfold zM
  (refine Xn [0] (hone) ?_;simp (disch:=omega) only[Ac,↓Pc,simprocAttr])
  repeat' (first|((fail_if_success (first|refine W_at 29 ?_|refine W_atE 29 ?_));refine Xr X0 ?_;intro K hK)|refine Xo X0 ?_|(refine hK _ ?_;clear hK K)|(refine Xg X0 ?_ ?_<;>try intro hb)|(refine Xi ?_ ?_<;>try intro ht)|refine Xy ?_|refine Xd ?_ ?_|exact Xx|fail)
  · have hec:=evenCounts_ok L k2 ⟨cls,prs,[],2⟩ rooms hk2 hL (by dsimp only;omega) (by omega) (by show (1:Int)<2;decide) hclf24
    refine W_region_ce 3 (by decide) _ rfl ?_
    intro K hK
    simp (disch:=omega) only[Ac,↓Pc,simprocAttr,List.take,List.drop]
    refine⟨rfl,(show callKR Tryz.prog 46 [.ptr 0 0 0,.agg (eMdl ⟨cls,prs,[],2⟩),.lit (.int .i64 rooms)] (some 102) _ _ from ?_)⟩
    unfold dice at hec
    refine callKR_sel [0] hec (by decide) ⟨rfl,trivial⟩ ⟨.eq rfl,.pure rfl,.pure rfl,trivial⟩ ?_
    rintro r os ⟨cts,k3,hk3,hcl,hcts,rfl,rfl⟩
    simp (disch:=omega) only[Ac,↓Pc,simprocAttr]
    refine hK _ ?_;clear hK K
    repeat (first|refine Xu ?_)
    ((try revert hK K);(repeat' (first|refine Va X0 ?_|(refine V2 X0 ?_ ?_<;>try with_reducible intro hb)|(refine Xi ?_ ?_<;>try intro ht)|refine VD ?_ ?_|exact Xx|fail))<;>try with_reducible intro K hK)
    unfold retR
    simp only[resW,retV]
    simp (disch:=omega) only[Ac,↓Pc,simprocAttr]
    refine⟨_,_,⟨⟨cls,prs,cts,2⟩,k3,hvm cts hcl hcts,hk3,rfl,rfl⟩,?_⟩
    exact Xw true [0] X0
  · unfold retR
    simp only[resW,retV]
    simp (disch:=omega) only[Ac,↓Pc,simprocAttr]
    refine⟨_,_,⟨⟨cls,prs,[],2⟩,k2,hvm [] (by simp) (by simp),hk2,rfl,rfl⟩,?_⟩
    exact Xw true [0] X0
end T

