import Derived.Test.YtkmfgcbdnijgeaaGreatX44
set_option linter.unusedVariables false
set_option linter.unusedSimpArgs false
set_option linter.unnecessarySimpa false
set_option linter.unusedSectionVars false
set_option maxHeartbeats 64000000
set_option maxRecDepth 20000
open Go Go.Am Go.Proofs
open Nat (reduceEqDiff reduceAdd reduceLeDiff reduceMul)
open Int (reduceNeg reduceLE reduceToNat)
namespace T
theorem tyFn:ty Tryz.prog 34 = { kind:=9,size:=1,bytes:=8,elem:=0,len:=0,zero:=some [.nilFunc],flds:=[] }:=by kernel_rfl
theorem down_ok (m:Mdl) (hm:VM m) (pv:AV) (t0:Int):∀ (f c:Nat) (left:List (List Bool)) (os:List Ob) (g:QS) (C:List (Nat × Ob)),left.length+1≤f+c→c≤left.length→FitsP m left→os.length=g.n→(0≤g.s.spl∧g.s.spl≤1000000)→(0≤g.s.room∧(g.R.length:Int)+g.s.room≤1000000)→g.s.tot≤t0→Fc (qB 72 m left pv t0 g C) os→∀ res,downO m f c left g=res →
    Holds Tryz.prog 72 [.lit (.int .i64 (c:Nat)),.ptr 8 0 0,.ptr 5 0 0,.ptr 0 0 0,.ptr 1 0 0,.ptr 2 0 0,.ptr 7 0 0,.ptr 6 0 0,.ptr 9 0 0] os (.lit (.int .i64 g.R.length)) (canon (qB 72 m left pv t0 res C) res.n):=by
  intro f
  induction f with
  | zero=>intro c left os g C hf hc;omega
  | succ f ih =>
    intro c left os g C hf hc hfit hos hsp hrm htot hF res hres
    have hfl:=hfit.1
    have hc24:=hm.cls
    have hpr:=prValue_ok m left hm hfit
    obtain ⟨k1,k2,k3,k4⟩:=skipT_ge (left:=left) _ c rfl
    have f8:os[8]?=some (.var [.ref g.p 5 0 g.R.length]):=qB_at hF (b:=(8,.var [.ref g.p 5 0 g.R.length])) (by simp[bB])
    have fp:=qB_p hF
    have hn9:9<g.n:=by rw[← hos];exact (List.getElem?_eq_some_iff.1 (qB_at hF (b:=(9,.var [.fn 72 capsD])) (by simp[bB]))).1
    have hp8:g.p≠8:=qB_ne hF (b:=(8,.var [.ref g.p 5 0 g.R.length])) (by simp[bB])
    have g8:(os.set g.p .gone)[8]?=some (.var [.ref g.p 5 0 g.R.length]):=by rw[List.getElem?_set_ne hp8];exact f8
    have hF1:=newQ_fc hF (g.n+2) (g.s.nodes++[leafN []])
    have hdo:=downO_fk (dn:=72) (m:=m) (left:=left) (pv:=pv) (t0:=t0) (N:=left.length) (f+1) c left g C rfl hf hc (by rw[← hos];exact hF.fk)
    rw[hres] at hdo
    rw[downO] at hres
    refine Holds.of_body' (fn:=Tryz.f72) 132 os.length [.tmp 10] Tryz.func72 rfl rfl rfl rfl rfl (by simp) ?_
    (((refine Va (X5 @f8 @fp @g8 (oLo g8) (X5 (oSo g8) (oLo f8) (oLo fp) (oSo f8) (X5 (oSo fp) @Oc2 @List.append_assoc.{0} @List.length_append.{0} @List.length_set.{0}))) ?_)))
    refine W_turn (σ':=⟨slots [(0,.lit (.int .i64 (c:Nat))),(1,.ptr 8 0 0),(2,.ptr 5 0 0),(3,.ptr 0 0 0),(4,.ptr 1 0 0),(5,.ptr 2 0 0),(6,.ptr 7 0 0),(7,.ptr 6 0 0),(8,.ptr 9 0 0),(11,.lit (.int .i64 g.R.length))],(os.set g.p .gone).set 8 (.var [.ref (os.length+1) 5 0 (g.R.length+1)])++[.arr 5 [rwR lfW],.arr 5 (rowsOf rwR (g.R++[lfW]))]⟩) (by rw[← rw_app];exact Xv X0) ?_
    have ho1l:((os.set g.p .gone).set 8 (.var [.ref (os.length+1) 5 0 (g.R.length+1)])++[Ob.arr 5 [rwR lfW],Ob.arr 5 (rowsOf rwR (g.R++[lfW]))]).length=g.n+2:=by simp[hos]
    rw[show os.length+1=g.n+1 by omega] at hF1 ho1l ⊢
    generalize (os.set g.p .gone).set 8 (.var [.ref (g.n+1) 5 0 (g.R.length+1)])++[Ob.arr 5 [rwR lfW],Ob.arr 5 (rowsOf rwR (g.R++[lfW]))]=o1 at *
    clear f8 fp hp8 g8 hF
    have hRl:(g.R++[lfW]).length=g.R.length+1:=by simp
    have hRg:(g.R++[lfW]).getD g.R.length default=lfW:=getD_lfE g.R
    have c0:o1[0]?=some (.var (eMdl m)):=qB_at hF1 (b:=(0,.var (eMdl m))) (by simp[bB])
    have c4:o1[4]?=some (.arr 1 (rowsOf eBs left)):=qB_at hF1 (b:=(4,.arr 1 (rowsOf eBs left))) (by simp[bB])
    have c5:o1[5]?=some (.var [.ref 4 1 0 left.length]):=qB_at hF1 (b:=(5,.var [.ref 4 1 0 left.length])) (by simp[bB])
    have hrw:∀ k,k<left.length→(rowsOf eBs left)[k]?=some [.tree 1 (bools (left.getD k default))]:=fun k hk=>by
      unfold rowsOf;rw[List.getElem?_map,List.getD_eq_getElem?_getD,List.getElem?_eq_getElem hk];rfl
    have hr24:∀ k,k<left.length→(left.getD k default).length≤24:=fun k hk=>by rw[hfit.2 k hk];exact hm.opt _ (getD_mem (by omega))
    refine W_loopS (fun k:Nat=>(⟨slots [(0,.lit (.int .i64 (k:Nat))),(1,.ptr 8 0 0),(2,.ptr 5 0 0),(3,.ptr 0 0 0),(4,.ptr 1 0 0),(5,.ptr 2 0 0),(6,.ptr 7 0 0),(7,.ptr 6 0 0),(8,.ptr 9 0 0),(11,.lit (.int .i64 g.R.length))],o1⟩:St)) (fun k=>c≤k∧k≤left.length∧skipT left k=skipT left c) (fun k=>left.length - k) c ⟨Nat.le_refl _,hc,rfl⟩ (Xv X0) ?_
    rintro k ⟨hk1,hk2,hks⟩ Ql hnl hel
    by_cases hgo:k<left.length∧(left.getD k default).length=1
    · have hrk:=hrw k hgo.1
      have hks2:=skipT_go hgo
      generalize left.getD k default=row at *
      ((repeat' (first|refine Va (X3 @c4 @c5 @hrk) ?_|(refine V2 (X3 @c4 @c5 @hrk) ?_ ?_<;>try with_reducible intro hb)|(refine Xi ?_ ?_<;>try intro ht)|exact Xx|fail)))
      all_goals exact hnl _ (k+1) ⟨by omega,by omega,by rw[← hks2,hks]⟩ (by omega) (Xv X0)
    have hkk:k=skipT left c:=by rw[← hks,skipT_end hgo]
    have keyL:∀ st,Turns os.length st ⟨slots [(0,.lit (.int .i64 (k:Nat))),(1,.ptr 8 0 0),(2,.ptr 5 0 0),(3,.ptr 0 0 0),(4,.ptr 1 0 0),(5,.ptr 2 0 0),(6,.ptr 7 0 0),(7,.ptr 6 0 0),(8,.ptr 9 0 0),(11,.lit (.int .i64 g.R.length))],o1⟩→Ql (.exit 0) st:=fun st hts=>by
      refine hel _ _ rfl ?_
      clear hnl hel
      repeat (refine Xu ?_)
      refine W_turn hts ?_
      clear hts st
      rw[← hkk] at hres k1 k2 k3 k4
      clear hkk hks
      have hm0:mergeO o1 [] ([]:List Ob)=o1:=by simp[mergeO]
      ((refine Va (X2 @c0 @c5) ?_)<;>try with_reducible intro K hK)
      refine callK_snap [] hpr (by decide) trivial ⟨.pure rfl,ArgR.fz c4 (by rw[rows_length]),trivial⟩ rfl (by simp) ?_
      rw[List.map_nil,hm0]
      simp (disch:=omega) only[Ac,↓Pc,simprocAttr]
      refine hK _ ?_
      clear hK K
      generalize hv:priceV m left=v at *
      have c1:o1[1]?=some (.var [planA pv t0 g.s,.lit (.int .i64 g.s.tot),.lit (.int .i64 g.s.bnd),.lit (.slice none 0 0)]):=qB_at hF1 (b:=(1,outO pv t0 g.s)) (by simp[bB,outO,planA])
      have c2:o1[2]?=some (.var [.lit (.int .i64 g.s.spl)]):=qB_at hF1 (b:=(2,.var [.lit (.int .i64 g.s.spl)])) (by simp[bB])
      have c6:o1[6]?=some (.var [.lit (.bool g.s.whole)]):=qB_at hF1 (b:=(6,.var [.lit (.bool g.s.whole)])) (by simp[bB])
      have c7:o1[7]?=some (.var [.lit (.int .i64 g.s.room)]):=qB_at hF1 (b:=(7,.var [.lit (.int .i64 g.s.room)])) (by simp[bB])
      by_cases hv1:g.s.tot≤v
      · rw[if_pos hv1] at hres
        dsimp only at hres hF1
        have hF2:Fc (qB 72 m left pv t0 res C) (o1.set 1 (.var [planA pv t0 g.s,.lit (.int .i64 g.s.tot),.lit (.int .i64 (min g.s.bnd v)),.lit (.slice none 0 0)])):=by
          subst hres;exact qB_upd hF1
        have hrn:res.n=o1.length:=by rw[← hres,ho1l]
        clear hres
        have c11:=fun y:Ob=>oSe (y:=y) c1
        repeat' (first|((fail_if_success (first|refine W_at 8 ?_|refine W_atE 8 ?_));refine Xr (X2 @c1 @c11) ?_;intro K hK)|(refine hK _ ?_;clear hK K)|(refine Xi ?_ ?_<;>try intro ht)|refine Xy ?_|exact Xx|fail)
        refine W_turn (σ':=⟨slots [(11,.lit (.int .i64 g.R.length))],o1.set 1 (.var [planA pv t0 g.s,.lit (.int .i64 g.s.tot),.lit (.int .i64 (min g.s.bnd v)),.lit (.slice none 0 0)])⟩) (Xv X0) ?_
        refine W_turn (Turns.canon hF2) ?_
        dsimp only
        rw[List.length_set,← hrn]
        refine Vb X0 ?_
        exact RetOK_all rfl (by rw[canon_len];omega) rfl
      rw[if_neg hv1] at hres
      by_cases hkl:k=left.length
      · rw[if_pos hkl] at hres
        have hch:=chosen_ok left (by omega) (fun l hl=>by
          obtain ⟨i,hi,rfl⟩:=List.getElem_of_mem hl
          have:=hr24 i hi
          rwa [List.getD_eq_getElem?_getD,List.getElem?_eq_getElem hi] at this)
        have hcon:mergeO o1 [] (List.map (renO (rho o1.length [])) [Ob.arr 1 (ints (firstsV left))])=o1++[Ob.arr 1 (ints (firstsV left))]:=by simp[mergeO,ints_ren]
        have hl1:∀ x,(o1++[x])[1]?=some (.var [planA pv t0 g.s,.lit (.int .i64 g.s.tot),.lit (.int .i64 g.s.bnd),.lit (.slice none 0 0)]):=fun x=>oLo c1 _
        have hl11:∀ x y,((o1++[x]).set 1 y)[1]?=some y:=fun x y=>oSe (hl1 x)
        have hs1:∀ x y z,((o1++[x]).set 1 y).set 1 z=(o1++[x]).set 1 z:=fun x y z=>List.set_set ..
        have h1l:1≠o1.length:=by omega
        have hil:(ints (firstsV left)).length=left.length:=by simp[ints,firstsV]
        dsimp only at hres hF1
        have hF2:Fc (qB 72 m left pv t0 res C) ((o1++[Ob.gone]).set 1 (.var [.tree 1 (ints (firstsV left)),.lit (.int .i64 v),.lit (.int .i64 (min g.s.bnd v)),.lit (.slice none 0 0)])):=by
          subst hres
          exact qB_upd (hF1.app [Ob.gone]) (hy:=by simp[bB,outO,planA,show v<t0 by omega])
        have hrn:res.n=o1.length+1:=by rw[← hres,ho1l]
        clear hres
        have hfz:∀ X:Ob,((o1++[Ob.arr 1 (ints (firstsV left))]).set 1 X)[o1.length]?=some (.arr 1 (ints (firstsV left))):=fun X=>by rw[List.getElem?_set_ne h1l];exact oL0 _ _ _
        have hst:∀ X Y:Ob,(((o1++[Ob.arr 1 (ints (firstsV left))]).set 1 X).set o1.length .gone).set 1 Y=(o1++[Ob.gone]).set 1 Y:=fun X Y=>by rw[List.set_comm _ _ h1l,List.set_set,oS0]
        repeat' (first|((fail_if_success (first|refine W_at 10 ?_|refine W_atE 10 ?_));refine Xr (X3 @c1 @c4 @c5) ?_;intro K hK)|(refine hK _ ?_;clear hK K)|(refine Xi ?_ ?_<;>try intro ht)|refine Xy ?_|exact Xx|fail)
        refine W_draw [] (.take 0 (.take 2 (.take 5 (.both 1 (.take 3 (.take 4 (.take 6 (.take 7 (.take 8 (.take 9 (.take 10 (.take 11 (.take 12 .nil))))))))) 3 (.both 1 (.take 4 (.take 6 (.take 7 (.take 8 (.take 9 (.take 10 (.take 11 (.take 12 .nil)))))))) 4 (.take 1 (.take 6 (.take 7 (.take 8 (.take 9 (.take 10 (.take 11 (.take 12 .nil))))))))))))) rfl (by decide) (by decide +kernel) ?_
        simp (disch:=omega) only[Ac,↓Pc,simprocAttr,Pw,c1,c4,c5]
        repeat' (with_reducible refine And.intro ?_ ?_)
        all_goals
          refine callK_snap [] hch (by decide) trivial ⟨ArgR.fz c4 (by rw[rows_length]),trivial⟩ rfl (by simp[flatO,ints,flat]) ?_
          rw[hcon]
          simp (disch:=omega) only[Ac,↓Pc,simprocAttr,Pw,c1,hl1,hl11,hs1]
        all_goals
          repeat (refine Xu ?_)
          refine W_turn (σ':=⟨slots [(11,.lit (.int .i64 g.R.length))],(o1++[Ob.arr 1 (ints (firstsV left))]).set 1 (.var [.ref o1.length 1 0 (ints (firstsV left)).length,.lit (.int .i64 v),.lit (.int .i64 (min g.s.bnd v)),.lit (.slice none 0 0)])⟩) (by rw[hil];exact Xv X0) ?_
          refine W_turn (Turns.frzV o1.length 1 0 1 (hl11 _ _) (hfz _) rfl (ints_wid _) (ints_frz _)) ?_
          simp only[List.set_cons_zero]
          rw[hst]
          refine W_turn (Turns.canon hF2) ?_
          dsimp only
          rw[List.length_set,List.length_append,List.length_singleton,← hrn]
          ((repeat' (first|refine Vb X0 ?_|fail)))
          exact RetOK_all rfl (by rw[canon_len];omega) rfl
      rw[if_neg hkl] at hres
      have hkl:k<left.length:=by omega
      have hrk:=hrw k hkl
      have hne:=k4 hkl
      have hrow:=hr24 k hkl
      generalize hrr:left.getD k default=row at *
      by_cases hlim:g.s.spl=0∨g.s.room<row.length
      · rw[if_pos hlim] at hres
        dsimp only at hres hF1
        have hF2:Fc (qB 72 m left pv t0 res C) ((o1.set 1 (.var [planA pv t0 g.s,.lit (.int .i64 g.s.tot),.lit (.int .i64 (min g.s.bnd v)),.lit (.slice none 0 0)])).set 6 (.var [.lit (.bool false)])):=by
          subst hres
          have h1:=qB_upd (i:=1) (y:=(.var [planA pv t0 g.s,.lit (.int .i64 g.s.tot),.lit (.int .i64 (min g.s.bnd v)),.lit (.slice none 0 0)])) (left':=left) (g':=⟨g.n+2,g.n+1,g.R++[lfW],{ g.s with nodes:=g.s.nodes++[leafN []],bnd:=min g.s.bnd v }⟩) hF1
          exact qB_upd h1
        have hrn:res.n=o1.length:=by rw[← hres,ho1l]
        clear hres
        have c66:∀ x,(o1.set 1 x)[6]?=some (.var [.lit (.bool g.s.whole)]):=fun x=>by rw[List.getElem?_set_ne (by decide)];exact c6
        have c11:=fun y:Ob=>oSe (y:=y) c1
        repeat' (first|((fail_if_success (first|refine W_at 14 ?_|refine W_atE 14 ?_));refine Xr (X5 @c1 @c2 @c4 @c5 (X4 @c7 @hrk @c11 @c66)) ?_;intro K hK)|(refine hK _ ?_;clear hK K)|(refine Xg (X5 @c1 @c2 @c4 @c5 (X4 @c7 @hrk @c11 @c66)) ?_ ?_<;>try intro hb)|(refine Xi ?_ ?_<;>try intro ht)|refine Xy ?_|refine Xd ?_ ?_|exact Xx|fail)
        all_goals
          refine W_turn (σ':=⟨slots [(11,.lit (.int .i64 g.R.length))],(o1.set 1 (.var [planA pv t0 g.s,.lit (.int .i64 g.s.tot),.lit (.int .i64 (min g.s.bnd v)),.lit (.slice none 0 0)])).set 6 (.var [.lit (.bool false)])⟩) (Xv X0) ?_
          refine W_turn (Turns.canon hF2) ?_
          dsimp only
          rw[List.length_set,List.length_set,← hrn]
          ((repeat' (first|refine Vb X0 ?_|fail)))
          exact RetOK_all rfl (by rw[canon_len];omega) rfl
      rw[if_neg hlim] at hres
      rw[not_or] at hlim
      unfold splD at hres
      rw[hrr] at hres
      have c8:o1[8]?=some (.var [.ref (g.n+1) 5 0 (g.R.length+1)]):=qB_at hF1 (b:=(8,.var [.ref (g.n+1) 5 0 (g.R.length+1)])) (by simp[bB])
      have hF2:Fc (qB 72 m left pv t0 ⟨g.n+2,g.n+1,g.R++[lfW],⟨g.s.nodes++[leafN []],g.s.room - row.length,g.s.spl - 1,g.s.whole,g.s.plan,g.s.tot,g.s.bnd⟩⟩ C) ((o1.set 2 (.var [.lit (.int .i64 (g.s.spl - 1))])).set 7 (.var [.lit (.int .i64 (g.s.room - row.length))])):=by
        have h1:=qB_upd (i:=2) (y:=(.var [.lit (.int .i64 (g.s.spl - 1))])) (left':=left) (g':=⟨g.n+2,g.n+1,g.R++[lfW],{ g.s with nodes:=g.s.nodes++[leafN []],spl:=g.s.spl - 1 }⟩) hF1
        exact qB_upd h1
      have c77:∀ x,(o1.set 2 x)[7]?=some (.var [.lit (.int .i64 g.s.room)]):=fun x=>by rw[List.getElem?_set_ne (by decide)];exact c7
      have c44:∀ x,(o1.set 2 x)[4]?=some (.arr 1 (rowsOf eBs left)):=fun x=>by rw[List.getElem?_set_ne (by decide)];exact c4
      have c55:∀ x,(o1.set 2 x)[5]?=some (.var [.ref 4 1 0 left.length]):=fun x=>by rw[List.getElem?_set_ne (by decide)];exact c5
      repeat' (first|((fail_if_success (first|refine W_at 18 ?_|refine W_atE 18 ?_));refine Xr (X5 @c1 @c2 @c4 @c5 (X5 @c7 @hrk @c77 @c44 @c55)) ?_;intro K hK)|(refine hK _ ?_;clear hK K)|(refine Xg (X5 @c1 @c2 @c4 @c5 (X5 @c7 @hrk @c77 @c44 @c55)) ?_ ?_<;>try intro hb)|(refine Xi ?_ ?_<;>try intro ht)|refine Xy ?_|refine Xd ?_ ?_|exact Xx|fail)
      refine W_turn (σ':=⟨slots [(0,.lit (.int .i64 (k:Nat))),(1,.ptr 8 0 0),(2,.ptr 5 0 0),(3,.ptr 0 0 0),(4,.ptr 1 0 0),(5,.ptr 2 0 0),(6,.ptr 7 0 0),(7,.ptr 6 0 0),(8,.ptr 9 0 0),(11,.lit (.int .i64 g.R.length)),(13,.tree 1 (bools row))],(o1.set 2 (.var [.lit (.int .i64 (g.s.spl - 1))])).set 7 (.var [.lit (.int .i64 (g.s.room - row.length))])⟩) (Xv X0) ?_
      have ho2l:((o1.set 2 (.var [.lit (.int .i64 (g.s.spl - 1))])).set 7 (.var [.lit (.int .i64 (g.s.room - row.length))])).length=g.n+2:=by simp[ho1l]
      generalize (o1.set 2 (.var [.lit (.int .i64 (g.s.spl - 1))])).set 7 (.var [.lit (.int .i64 (g.s.room - row.length))])=o2 at *
      clear c0 c1 c2 c4 c5 c6 c7 c8 c77 c44 c55 hF1
      refine Va @Oc2 ?_
      refine W_turn (Turns.nilC o2.length 1 1 (oL0 _ _ _) rfl (by decide)) ?_
      simp only[List.set_cons_succ,List.set_cons_zero,List.append_assoc,List.cons_append,List.nil_append,List.length_append,List.length_singleton,oS0]
      rw[ho2l]
      refine W_turn (σ':=⟨slots [(0,.lit (.int .i64 (k:Nat))),(1,.ptr 8 0 0),(2,.ptr 5 0 0),(3,.ptr 0 0 0),(4,.ptr 1 0 0),(5,.ptr 2 0 0),(6,.ptr 7 0 0),(7,.ptr 6 0 0),(8,.ptr 9 0 0),(11,.lit (.int .i64 g.R.length)),(13,.tree 1 (bools row)),(14,.ptr (g.n+2) 0 0),(96,.tree 1 (bools row)),(97,.lit (.int .i64 row.length)),(98,.lit (.int .i64 (0:Nat)))],o2++[.var (rwR ⟨k,some (g.n+3,[]),none⟩),.arr 1 (ints [])]⟩) (Xv X0) ?_
      have hF3:Fc (qB 72 m (left.set k row) pv t0 ⟨g.n+4,g.n+1,g.R++[lfW],⟨g.s.nodes++[leafN []],g.s.room - row.length,g.s.spl - 1,g.s.whole,g.s.plan,g.s.tot,g.s.bnd⟩⟩ ((g.n+3,.arr 1 (ints []))::(g.n+2,.var (rwR ⟨k,some (g.n+3,[]),none⟩))::C)) (o2++[.var (rwR ⟨k,some (g.n+3,[]),none⟩),.arr 1 (ints [])]):=by
        have e:left.set k row=left:=by rw[← hrr];exact setRow_self hkl
        rw[e]
        have hF2:Fc (qB 72 m left pv t0 ⟨g.n+4,g.n+1,g.R++[lfW],⟨g.s.nodes++[leafN []],g.s.room - row.length,g.s.spl - 1,g.s.whole,g.s.plan,g.s.tot,g.s.bnd⟩⟩ C) o2:=hF2
        have h1:=(hF2.app [Ob.var (rwR ⟨k,some (g.n+3,[]),none⟩),Ob.arr 1 (ints [])]).add (k:=g.n+2) (x:=.var (rwR ⟨k,some (g.n+3,[]),none⟩)) (by rw[← ho2l];exact oL0 _ _ _) (hF2.fresh (by omega))
        have h2:=h1.add (k:=g.n+3) (x:=.arr 1 (ints [])) (by rw[show g.n+3=o2.length+1 by omega,oLk];rfl) (by
          rw[List.map_cons,List.mem_cons,not_or]
          exact⟨by dsimp only;omega,hF2.fresh (by omega)⟩)
        exact h2.perm ((List.Perm.cons _ qB_in).trans qB_in)
      have ho3l:(o2++[Ob.var (rwR ⟨k,some (g.n+3,[]),none⟩),Ob.arr 1 (ints [])]).length=g.n+4:=by simp[ho2l]
      generalize o2++[Ob.var (rwR ⟨k,some (g.n+3,[]),none⟩),Ob.arr 1 (ints [])]=o3 at *
      clear hF2 ho2l o2
      generalize hRR:kidsO' (downO m f (k+1)) left k row.length 0 ⟨g.n+4,g.n+1,g.R++[lfW],⟨g.s.nodes++[leafN []],g.s.room - row.length,g.s.spl - 1,g.s.whole,g.s.plan,g.s.tot,g.s.bnd⟩⟩ (g.n+3) []=RR at *
      refine W_loopS (fun z:Nat × QS × Nat × List Int × List Ob × List Bool=>(⟨slots [(0,.lit (.int .i64 (k:Nat))),(1,.ptr 8 0 0),(2,.ptr 5 0 0),(3,.ptr 0 0 0),(4,.ptr 1 0 0),(5,.ptr 2 0 0),(6,.ptr 7 0 0),(7,.ptr 6 0 0),(8,.ptr 9 0 0),(11,.lit (.int .i64 g.R.length)),(13,.tree 1 (bools row)),(14,.ptr (g.n+2) 0 0),(97,.lit (.int .i64 row.length)),(98,.lit (.int .i64 z.1))],z.2.2.2.2.1⟩:St))
        (fun z=>z.1≤row.length∧z.2.2.2.1.length=z.1∧g.R.length<z.2.1.R.length∧z.2.1.R.getD g.R.length default=lfW∧z.2.2.2.2.1.length=z.2.1.n∧g.n≤z.2.1.n∧Fc (qB 72 m (left.set k z.2.2.2.2.2) pv t0 z.2.1 ((z.2.2.1,.arr 1 (ints z.2.2.2.1))::(g.n+2,.var (rwR ⟨k,some (z.2.2.1,z.2.2.2.1),none⟩))::C)) z.2.2.2.2.1 ∧
          kidsO' (downO m f (k+1)) left k (row.length - z.1) z.1 z.2.1 z.2.2.1 z.2.2.2.1=RR∧(z.2.1.R.length:Int)+z.2.1.s.room=g.R.length+1+g.s.room - row.length+z.1∧0≤z.2.1.s.room∧(0≤z.2.1.s.spl∧z.2.1.s.spl≤1000000)∧z.2.1.s.tot≤t0) (fun z=>row.length - z.1)
        (0,⟨g.n+4,g.n+1,g.R++[lfW],⟨g.s.nodes++[leafN []],g.s.room - row.length,g.s.spl - 1,g.s.whole,g.s.plan,g.s.tot,g.s.bnd⟩⟩,g.n+3,[],o3,row) ⟨Nat.zero_le _,rfl,by dsimp only;omega,hRg,ho3l,by dsimp only;omega,hF3,hRR,by dsimp only;rw[hRl];omega,by dsimp only;omega,by dsimp only;omega,htot⟩ (Xv X0) ?_
      clear hF3 ho3l o3 hRR
      rintro ⟨i,gg,q,ks,o,x⟩ ⟨hi,hks,hnlt,hnt,hol,hgn,hF4,hr,hbr,hb0,hbs,hbt⟩ Ql3 hnl3 hel3
      dsimp only at hi hks hnlt hnt hol hgn hF4 hr hbr hb0 hbs hbt ⊢
      have d4:o[4]?=some (.arr 1 (rowsOf eBs (left.set k x))):=qB_at hF4 (b:=(4,.arr 1 (rowsOf eBs (left.set k x)))) (by simp[bB])
      have d5:o[5]?=some (.var [.ref 4 1 0 left.length]):=qB_at hF4 (b:=(5,.var [.ref 4 1 0 left.length])) (by simp[bB])
      have d9:o[9]?=some (.var [.fn 72 [.ptr 8 0 0,.ptr 5 0 0,.ptr 0 0 0,.ptr 1 0 0,.ptr 2 0 0,.ptr 7 0 0,.ptr 6 0 0,.ptr 9 0 0]]):=qB_at hF4 (b:=(9,.var [.fn 72 capsD])) (by simp[bB])
      have dv:o[g.n+2]?=some (.var (rwR ⟨k,some (q,ks),none⟩)):=qB_C hF4 (b:=(g.n+2,.var (rwR ⟨k,some (q,ks),none⟩))) (by simp)
      have h4l:=(List.getElem?_eq_some_iff.1 d4).1
      have hkl2:k<(left.set k x).length:=by rw[List.length_set];exact hkl
      have hrl:(rowsOf eBs (left.set k x)).length=left.length:=by rw[rows_length,List.length_set]
      by_cases hi':i<row.length
      · have hrk2:(rowsOf eBs (left.set k x))[k]?=some [.tree 1 (bools x)]:=by
          unfold rowsOf
          rw[List.getElem?_map,List.getElem?_set,if_pos rfl,if_pos hkl];rfl
        have hst:∀ y,((rowsOf eBs (left.set k x)).set k y)[k]?=some y:=fun y=>by rw[List.getElem?_set,if_pos rfl,if_pos (by rw[hrl];exact hkl)]
        have e4:∀ A B,((o++[A]).set 4 B)[4]?=some B:=fun A B=>oSe (oLo d4 _)
        have e5:∀ A B,((o++[A]).set 4 B)[5]?=some (.var [.ref 4 1 0 left.length]):=fun A B=>by rw[List.getElem?_set_ne (by decide)];exact oLo d5 _
        have eL:∀ A B,((o++[A]).set 4 B)[o.length]?=some A:=fun A B=>by rw[List.getElem?_set_ne (by omega)];exact oL0 _ _ _
        have hb5:=fun A=>oLo d5 [A]
        have hb4:=fun A=>oLo d4 [A]
        have hbf:(bools (List.replicate row.length false))[i]?=some [.lit (.bool false)]:=by
          unfold bools
          rw[List.getElem?_map,List.getElem?_replicate,if_pos hi'];rfl
        have hbl:(bools (onlyR row.length i)).length=row.length:=by rw[bools_length,onlyR_len]
        have hov:onlyV left k i=left.set k (onlyR row.length i):=by unfold onlyV;rw[hrr]
        repeat' (first|((fail_if_success (first|refine W_at 24 ?_|refine W_atE 24 ?_));refine Xr (X5 @d4 @d5 @hb4 @hb5 (X5 @hrk2 @hst @e4 @e5 (X5 @eL @hrl @hbf @List.length_set.{0} (X2 @List.length_append.{0} @List.length_replicate.{0})))) ?_;intro K hK)|(refine hK _ ?_;clear hK K)|(refine Xi ?_ ?_<;>try intro ht)|refine Xy ?_|refine Xd ?_ ?_|exact Xx|fail)
        refine W_turn (σ':=⟨slots [(0,.lit (.int .i64 (k:Nat))),(1,.ptr 8 0 0),(2,.ptr 5 0 0),(3,.ptr 0 0 0),(4,.ptr 1 0 0),(5,.ptr 2 0 0),(6,.ptr 7 0 0),(7,.ptr 6 0 0),(8,.ptr 9 0 0),(11,.lit (.int .i64 g.R.length)),(13,.tree 1 (bools row)),(14,.ptr (g.n+2) 0 0),(97,.lit (.int .i64 row.length)),(98,.lit (.int .i64 i))],((o++[Ob.arr 1 (bools (List.replicate row.length false))]).set 4 (.arr 1 ((rowsOf eBs (left.set k x)).set k [.ref o.length 1 0 row.length]))).set o.length (.arr 1 (bools (onlyR row.length i)))⟩) (by unfold onlyR;exact Xv X0) ?_
        refine W_turn (Turns.frzR o.length 4 k 0 1 1 (R:=(rowsOf eBs (left.set k x)).set k [.ref o.length 1 0 row.length]) (cells:=[.ref o.length 1 0 row.length]) (rows:=bools (onlyR row.length i)) (by rw[List.getElem?_set_ne (by omega)];exact e4 _ _) (hst _) (oSe (eL _ _)) (by rw[hbl];rfl) (by omega) (bools_wid _) (bools_frz _)) ?_
        have hsx:∀ A B A' B':Ob,(((((o++[A]).set 4 B).set o.length A').set o.length Ob.gone).set 4 B')=(o++[Ob.gone]).set 4 B':=fun A B A' B'=>by
          rw[List.set_set,List.set_comm _ _ (show 4≠o.length by omega),List.set_set,oS0]
        rw[hsx,List.set_set]
        simp only[List.set_cons_zero]
        rw[eBs_set,← hov]
        have hF5:Fc (qB 72 m (onlyV left k i) pv t0 ⟨gg.n+1,gg.p,gg.R,gg.s⟩ ((q,.arr 1 (ints ks))::(g.n+2,.var (rwR ⟨k,some (q,ks),none⟩))::C)) ((o++[Ob.gone]).set 4 (.arr 1 (rowsOf eBs (onlyV left k i)))):=by
          rw[hov]
          exact qB_upd (hF4.app [Ob.gone])
        have ho4l:((o++[Ob.gone]).set 4 (.arr 1 (rowsOf eBs (onlyV left k i)))).length=gg.n+1:=by simp[hol]
        generalize (o++[Ob.gone]).set 4 (.arr 1 (rowsOf eBs (onlyV left k i)))=o4 at *
        clear hF4 d4 d5 d9 dv h4l hkl2 hrl hrk2 hst e4 e5 eL hb5 hb4 hbf hsx hol
        have hvl:(onlyV left k i).length=left.length:=by rw[hov,List.length_set]
        have hG:=ih (k+1) (onlyV left k i) o4 ⟨gg.n+1,gg.p,gg.R,gg.s⟩ _ (by omega) (by omega) (fits_map hfit (onlyV_len _ _ _)) ho4l hbs ⟨hb0,by dsimp only;omega⟩ hbt hF5 _ rfl
        have hdk:=downO_fk (dn:=72) (m:=m) (left:=onlyV left k i) (pv:=pv) (t0:=t0) (N:=left.length) f (k+1) (onlyV left k i) ⟨gg.n+1,gg.p,gg.R,gg.s⟩ _ hvl (by omega) (by omega) (by have:=hF5.fk;rw[ho4l] at this;exact this)
        have hrmk:=downO_room m (N:=left.length) f (k+1) (onlyV left k i) ⟨gg.n+1,gg.p,gg.R,gg.s⟩ hvl (by omega) (by omega)
        have hcnk:=downO_cn m f (k+1) (onlyV left k i) ⟨gg.n+1,gg.p,gg.R,gg.s⟩
        rw[show row.length - i=(row.length - (i+1))+1 by omega,kidsO'] at hr
        have d9:o4[9]?=some (.var [.fn 72 [.ptr 8 0 0,.ptr 5 0 0,.ptr 0 0 0,.ptr 1 0 0,.ptr 2 0 0,.ptr 7 0 0,.ptr 6 0 0,.ptr 9 0 0]]):=qB_at hF5 (b:=(9,.var [.fn 72 capsD])) (by simp[bB])
        have dv:o4[g.n+2]?=some (.var (rwR ⟨k,some (q,ks),none⟩)):=qB_C hF5 (b:=(g.n+2,.var (rwR ⟨k,some (q,ks),none⟩))) (by simp)
        generalize downO m f (k+1) (onlyV left k i) ⟨gg.n+1,gg.p,gg.R,gg.s⟩=r at *
        obtain ⟨x1,x2,x3,x4⟩:=hdk
        obtain ⟨y1,y2,y3,y4,y5⟩:=hcnk
        dsimp only at x1 x2 x3 hrmk y1 y2 y3 y4 y5 hG
        have hF6:=x4.canon
        have ho5:=canon_len (qB 72 m (onlyV left k i) pv t0 r ((q,.arr 1 (ints ks))::(g.n+2,.var (rwR ⟨k,some (q,ks),none⟩))::C)) r.n
        generalize canon (qB 72 m (onlyV left k i) pv t0 r ((q,.arr 1 (ints ks))::(g.n+2,.var (rwR ⟨k,some (q,ks),none⟩))::C)) r.n=o5 at *
        have dq:o5[q]?=some (.arr 1 (ints ks)):=qB_C hF6 (b:=(q,.arr 1 (ints ks))) (by simp)
        have dv6:o5[g.n+2]?=some (.var (rwR ⟨k,some (q,ks),none⟩)):=qB_C hF6 (b:=(g.n+2,.var (rwR ⟨k,some (q,ks),none⟩))) (by simp)
        have dv7:(o5.set q Ob.gone)[g.n+2]?=some (.var (rwR ⟨k,some (q,ks),none⟩)):=oSn dv6 dq (by simp)
        have hF7:=kidQ_fc (X':=.var (rwR ⟨k,some (r.n+1,ks++[(gg.R.length:Int)]),none⟩)) (.arr 1 [[.lit (.int .i64 gg.R.length)]]) hF6 (r.n+2) (.arr 1 (ints (ks++[(gg.R.length:Int)])))
        rw[ho5] at hF7
        have hk1:((k+1:Nat):Int)=(k:Int)+1:=by omega
        have hle5:os.length≤o5.length:=by rw[ho5,hos];omega
        have hle6:o4.length≤o5.length:=by rw[ho5,ho4l];exact x3
        rw[hk1] at hG
        have hrwE:rwR ⟨(k:Int),some (o5.length+1,ks++[(gg.R.length:Int)]),none⟩=[.lit (.int .i64 k),.ref (o5.length+1) 1 0 (ks.length+1),.lit (.slice none 0 0),.lit (.slice none 0 0),.lit (.slice none 0 0)]:=by unfold rwR kE mE;simp
        unfold rwR kE mE at dv dv6 dv7
        dsimp only at dv dv6 dv7
        refine W_draw [] (.take 2 (.take 3 (.take 4 (.both 0 (.both 1 (.take 5 (.take 6 (.take 7 (.take 8 (.take 9 .nil))))) 5 (.take 1 (.take 6 (.take 7 (.take 8 (.take 9 .nil)))))) 5 (.take 0 (.take 1 (.take 6 (.take 7 (.take 8 (.take 9 .nil)))))))))) rfl (by decide) (by decide +kernel) ?_
        simp (disch:=omega) only[Ac,↓Pc,simprocAttr,Pw,dv,d9,tyFn]
        repeat' (first|with_reducible refine And.intro ?_ ?_|omega)
        all_goals
          refine callK_all hG (by first|exact hle6|exact hle5) ?_
          simp (disch:=omega) only[Ac,↓Pc,simprocAttr,Pw,tyFn,dq,dv6,dv7,oLo dq,oSo dq,oLo dv6,oLo dv7,oSo dv7,Oc2,List.append_assoc,List.length_append,List.length_set,ints_app1]
          repeat' (first|with_reducible refine And.intro ?_ ?_|omega)
        all_goals
          repeat (refine Xu ?_)
          ((repeat' (first|refine Va X0 ?_|fail)))
          refine hnl3 _ (i+1,⟨r.n+2,r.p,r.R,r.s⟩,r.n+1,ks++[(gg.R.length:Int)],(o5.set q Ob.gone).set (g.n+2) (.var (rwR ⟨k,some (r.n+1,ks++[(gg.R.length:Int)]),none⟩))++[.arr 1 [[.lit (.int .i64 gg.R.length)]],.arr 1 (ints (ks++[(gg.R.length:Int)]))],onlyR row.length i) ⟨by dsimp only;omega,by dsimp only;rw[List.length_append,hks];rfl,by dsimp only;omega,(x2 _ hnlt).trans hnt,by dsimp only;simp[ho5],by dsimp only;omega,?_,hr,by dsimp only;rw[hrmk];omega,by dsimp only;omega,by dsimp only;omega,by dsimp only;omega⟩ (by dsimp only;omega) (by dsimp only;rw[← ho5,hrwE];exact Xv X0)
          rw[← hov]
          exact hF7
      · obtain rfl:i=row.length:=by omega
        rw[Nat.sub_self,kidsO'] at hr
        have hRp:gg.p≠4:=qB_ne hF4 (b:=(4,.arr 1 (rowsOf eBs (left.set k x)))) (by simp[bB])
        have d8:o[8]?=some (.var [.ref gg.p 5 0 gg.R.length]):=qB_at hF4 (b:=(8,.var [.ref gg.p 5 0 gg.R.length])) (by simp[bB])
        have dp:=qB_p hF4
        have hrk2:(rowsOf eBs (left.set k x))[k]?=some [.tree 1 (bools x)]:=by
          unfold rowsOf
          rw[List.getElem?_map,List.getElem?_set,if_pos rfl,if_pos hkl];rfl
        have hself:left.set k row=left:=by rw[← hrr];exact setRow_self hkl
        have hset:(rowsOf eBs (left.set k x)).set k [.tree 1 (bools row)]=rowsOf eBs left:=by rw[eBs_set,hself]
        have hF5:Fc (qB 72 m left pv t0 gg ((q,.arr 1 (ints ks))::(g.n+2,.var (rwR ⟨k,some (q,ks),none⟩))::C)) (o.set 4 (.arr 1 (rowsOf eBs left))):=qB_upd hF4
        have hF6:=((hF5.perm qB_in.symm).perm ((List.Perm.cons _ qB_in.symm).trans (List.Perm.swap _ _ _))).drop.1.perm qB_in
        have hF7:=rowQ_fc (c:=(k:Int)) hnlt hnt hF6 gg.n (finD k g.R.length (gg.s,ks)).nodes
        have hfin:Fc (qB 72 m left pv t0 res C) ((o.set 4 (.arr 1 (rowsOf eBs left))).set gg.p (.arr 5 (rowsOf rwR (gg.R.set g.R.length ⟨(k:Int),some (q,ks),none⟩)))):=by
          rw[← hres,← hr];exact hF7
        have hrn:res.n=o.length:=by rw[← hres,← hr];exact hol.symm
        have f5:=fun y=>(show (o.set 4 y)[5]?=some (.var [.ref 4 1 0 left.length]) by rw[List.getElem?_set_ne (by decide)];exact d5)
        have f8:=fun y=>(show (o.set 4 y)[8]?=some (.var [.ref gg.p 5 0 gg.R.length]) by rw[List.getElem?_set_ne (by decide)];exact d8)
        have fp:=fun y=>(show (o.set 4 y)[gg.p]?=some (.arr 5 (rowsOf rwR gg.R)) by rw[List.getElem?_set_ne (Ne.symm hRp)];exact dp)
        have fv:=fun y=>(show (o.set 4 y)[g.n+2]?=some (.var (rwR ⟨k,some (q,ks),none⟩)) by rw[List.getElem?_set_ne (by omega)];exact dv)
        have hrg:=rw_get hnlt hnt
        have hrs:=rw_set gg.R g.R.length ⟨(k:Int),some (q,ks),none⟩
        unfold rwR kE mE at dv
        unfold rwR kE mE lfW at hrg
        dsimp only at dv hrg
        ((repeat' (first|refine Va X0 ?_|(refine Xi ?_ ?_<;>try intro ht)|exact Xx|fail)))
        refine hel3 _ _ rfl ?_
        clear hnl3 hel3
        repeat (refine Xu ?_)
        repeat' (first|((fail_if_success (first|refine W_at 28 ?_|refine W_atE 28 ?_));refine Xr (X5 @d4 @d5 @hrl @hrk2 (X5 @hset @f5 @f8 @fp (X5 @fv @hrg @rwR.eq_1 (X2 @kE.eq_1 @kE.eq_2) (X2 (X2 @mE.eq_1 @mE.eq_2) @rw_len)))) ?_;intro K hK)|(refine hK _ ?_;clear hK K)|refine Xy ?_|refine Xd ?_ ?_|exact Xx|fail)
        refine W_turn (σ':=⟨slots [(11,.lit (.int .i64 g.R.length))],(o.set 4 (.arr 1 (rowsOf eBs left))).set gg.p (.arr 5 (rowsOf rwR (gg.R.set g.R.length ⟨(k:Int),some (q,ks),none⟩)))⟩) (by rw[← hrs];exact Xv X0) ?_
        refine W_turn (Turns.canon hfin) ?_
        dsimp only
        rw[List.length_set,List.length_set,← hrn]
        refine Vb X0 ?_
        exact RetOK_all rfl (by rw[canon_len];omega) rfl
    by_cases hkl:k<left.length
    · have hrk:=hrw k hkl
      have hne:(left.getD k default).length≠1:=fun e=>hgo ⟨hkl,e⟩
      generalize left.getD k default=row at *
      ((repeat' (first|refine Va (X3 @c4 @c5 @hrk) ?_|(refine V2 (X3 @c4 @c5 @hrk) ?_ ?_<;>try with_reducible intro hb)|(refine Xi ?_ ?_<;>try intro ht)|exact Xx|fail)))
      all_goals exact keyL _ (Xv X0)
    · ((repeat' (first|refine Va (X2 @c4 @c5) ?_|(refine V2 (X2 @c4 @c5) ?_ ?_<;>try with_reducible intro hb)|(refine Xi ?_ ?_<;>try intro ht)|exact Xx|fail)))
      all_goals exact keyL _ (Xv X0)
end T

