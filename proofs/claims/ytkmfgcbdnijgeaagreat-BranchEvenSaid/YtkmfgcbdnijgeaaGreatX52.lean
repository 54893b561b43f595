import Derived.Test.YtkmfgcbdnijgeaaGreatX44
import Derived.Test.YtkmfgcbdnijgeaaGreatX51
import Derived.Test.YtkmfgcbdnijgeaaGreatX42
set_option linter.unusedVariables false
set_option linter.unusedSimpArgs false
set_option linter.unnecessarySimpa false
set_option linter.unusedSectionVars false
set_option maxHeartbeats 64000000
set_option maxRecDepth 20000
open Go Go.Am Go.Proofs
open Nat (reduceEqDiff reduceAdd reduceLeDiff reduceMul)
open Int (reduceNeg reduceLE reduceToNat)
open Go Go.Am
namespace T
theorem allOwn_ok (m:Mdl) (hvm:VM m):Holds Tryz.prog 71 [.agg (eMdl m)] [] (.ref 0 1 0 (allT m).length) [.arr 1 (rowsOf eBs (allT m))]:=by
  have hm:=hvm.mb
  have h1:=valid_ok m hm
  have hm1:=hm.cls
  generalize hres:allT m=res
  unfold allT at hres
  refine Holds.of_body' (fn:=Tryz.f71) 25 0 [.tmp 2] Tryz.func71 rfl rfl rfl rfl rfl (by simp) ?_
  have hv:validV m=0:=valid_iff.2 hvm
  rw[if_pos hv] at hres
  rw[hv] at h1
  have hc24:=hvm.cls
  ((repeat' (first|refine Vd @bne_self_eq_false.{0} h1 ?_|(refine Xi ?_ ?_<;>try intro ht)|exact Xx|fail)))
  refine W_loopS (fun z:Nat × List (List Bool)=>(⟨slots [(1,.ptr 0 0 0),(3,.ref 1 1 0 z.2.length),(10,.tree 1 (rowsOf eCls m.cls)),(11,.lit (.int .i64 m.cls.length)),(12,.lit (.int .i64 z.1))],[.var (eMdl m),.arr 1 (rowsOf eBs z.2)]⟩:St))
    (fun z=>z.1≤m.cls.length∧z.2=(allV m).take z.1) (fun z=>m.cls.length - z.1) (0,[]) ⟨Nat.zero_le _,rfl⟩ ?_ ?_
  · refine Turns.trans (Turns.nil 3 1 (by simp only[Kc,simprocAttr]) (by decide)) ?_
    exact Xv X0
  rintro ⟨i,xs⟩ ⟨hi,hxs⟩ Ql hnl hel
  dsimp only at hi hxs ⊢
  have hal:(allV m).length=m.cls.length:=by simp[allV]
  by_cases hi':i<m.cls.length
  · have hxl:xs.length=i:=by rw[hxs,List.length_take];omega
    have hts:(allV m).take (i+1)=xs++[List.replicate (m.cls.getD i default).length true]:=by
      rw[take_snoc (by omega),← hxs];unfold allV;rw[map_getD _ _ _ hi']
    have hl24:=hvm.opt _ (getD_mem (d:=default) hi')
    generalize hcc:m.cls.getD i default=c at *
    have hrep:=repeatB_ok true c.length (by omega)
    repeat' (first|((fail_if_success (first|refine W_at 7 ?_|refine W_atE 7 ?_));refine Xr (X2 @hcc @eCls.eq_1) ?_;intro K hK)|(refine hK _ ?_;clear hK K)|(refine Xi ?_ ?_<;>try intro ht)|refine Xy ?_|refine Xd ?_ ?_|exact Xx|fail)
    refine W_region_te 5 (by decide) ?_
    intro K K1 hK hK1
    simp (disch:=omega) only[Ac,↓Pc,simprocAttr,List.take]
    refine callK_snap [] hrep (by decide) trivial ⟨ArgR.fz (rows:=rowsOf eBl [true]) rfl rfl (by simp),.pure rfl,trivial⟩ rfl (by simp[flatO,eBl,rowsOf,flat]) ?_
    simp (disch:=omega) only[Ac,↓Pc,simprocAttr]
    refine hK1 _ ⟨slots [(1,.ptr 0 0 0),(3,.ref 1 1 0 xs.length),(10,.tree 1 (rowsOf eCls m.cls)),(11,.lit (.int .i64 m.cls.length)),(12,.lit (.int .i64 i)),(16,.ref 1 1 0 xs.length),(20,.tree 1 (bools (List.replicate c.length true)))],[.var (eMdl m),.arr 1 (rowsOf eBs xs)]⟩ ?_ ?_
    · rw[← eBl_bools]
      exact Xs true [0,1] X0
    clear hK1 K1
    simp (disch:=omega) only[Ac,↓Pc,simprocAttr,List.drop,eBs_app]
    repeat' (first|with_reducible refine And.intro ?_ ?_|omega)
    refine hK _ ?_;clear hK K
    repeat (refine Xu ?_)
    refine Va X0 ?_
    refine hnl _ (i+1,xs++[List.replicate c.length true]) ⟨by dsimp only;omega,hts.symm⟩ (by dsimp only;omega) ?_
    exact Xs false [0,3] X0
  · rw[List.take_of_length_le (by omega)] at hxs
    ((repeat' (first|refine Va X0 ?_|(refine Xi ?_ ?_<;>try intro ht)|exact Xx|fail)))
    refine hel _ _ rfl ?_;clear hnl hel Ql
    repeat (refine Xu ?_)
    refine Vb X0 ?_
    rw[hxs,hres]
    exact Xw false [1] X0
def g0 (spl:Int) (p0:List Int) (t0:Int):QS:=⟨11,10,[],⟨[],19999,spl,true,p0,t0,1099511627776⟩⟩
def growD (m:Mdl) (spl:Int) (p0:List Int) (t0:Int):DS:=downD m (m.cls.length+1) 0 (allT m) ⟨[],19999,spl,true,p0,t0,1099511627776⟩
theorem noRef_planA {pv:AV} {t0:Int} {s:DS} (h:noRef pv=true):noRef (planA pv t0 s)=true:=by
  unfold planA
  split
  · rfl
  · exact h
theorem grow_ok (m:Mdl) (hm:VM m) (spl:Int) (hsp:0≤spl∧spl≤1000000) (p0:List Int) (t0:Int) (pv:AV) (hpv:noRef pv=true) (hps:scal pv=true) (b0:Int) :
    Holds Tryz.prog 35 [.agg (eMdl m),.agg [pv,.lit (.int .i64 t0),.lit (.int .i64 b0),.lit (.slice none 0 0)],.lit (.int .i64 spl)] []
      (.tup [.agg [planA pv t0 (growD m spl p0 t0),.lit (.int .i64 (growD m spl p0 t0).tot),.lit (.int .i64 (growD m spl p0 t0).bnd),.tree 5 (rowsOf eNd (growD m spl p0 t0).nodes)],.lit (.bool (growD m spl p0 t0).whole)]) []:=by
  have hall:=allOwn_ok m hm
  have hfit:=all_fits hm
  have hc24:=hm.cls
  have hsim:=downO_sim m (m.cls.length+1) 0 (allT m) (g0 spl p0 t0) rfl
  have hF0:Fc (qB 72 m (allT m) pv t0 (g0 spl p0 t0) [(3,.var [.lit (.slice none 0 0),.lit (.int .i64 0),.lit (.int .i64 0),.lit (.slice none 0 0)])])
      [.var (eMdl m),.var [pv,.lit (.int .i64 t0),.lit (.int .i64 1099511627776),.lit (.slice none 0 0)],.var [.lit (.int .i64 spl)],.var [.lit (.slice none 0 0),.lit (.int .i64 0),.lit (.int .i64 0),.lit (.slice none 0 0)],.arr 1 (rowsOf eBs (allT m)),.var [.ref 4 1 0 (allT m).length],.var [.lit (.bool true)],.var [.lit (.int .i64 19999)],.var [.ref 10 5 0 0],.var [.fn 72 capsD],.arr 5 []]:=by
    refine⟨?_,(show ([0,1,2,4,5,6,7,9,8,10,3]:List Nat).Nodup by decide)⟩
    unfold qB bB outO planA g0 rwB
    simp[rowsOf]
  have hdn:=down_ok m hm pv t0 (m.cls.length+1) 0 (allT m) _ (g0 spl p0 t0) _ (by rw[hfit.1];simp) (Nat.zero_le _) hfit rfl hsp ⟨by show (0:Int)≤19999;omega,by show (0:Int)+19999≤1000000;omega⟩ (Int.le_refl _) hF0 _ rfl
  have hdo:=downO_fk (dn:=72) (m:=m) (left:=allT m) (pv:=pv) (t0:=t0) (N:=m.cls.length) (m.cls.length+1) 0 (allT m) (g0 spl p0 t0) _ hfit.1 (by omega) (Nat.zero_le _) hF0.fk
  have hnd:growD m spl p0 t0=(downO m (m.cls.length+1) 0 (allT m) (g0 spl p0 t0)).s:=hsim.2.symm
  have hag:=hsim.1
  unfold Agr at hag
  rw[hnd]
  generalize downO m (m.cls.length+1) 0 (allT m) (g0 spl p0 t0)=r at *
  have hF6:=hdo.fk.canon
  have hol:=hdo.ol
  have ho5:=canon_len (qB 72 m (allT m) pv t0 r [(3,.var [.lit (.slice none 0 0),.lit (.int .i64 0),.lit (.int .i64 0),.lit (.slice none 0 0)])]) r.n
  unfold g0 at hdn hol
  dsimp only at hdn hol
  generalize canon (qB 72 m (allT m) pv t0 r [(3,.var [.lit (.slice none 0 0),.lit (.int .i64 0),.lit (.int .i64 0),.lit (.slice none 0 0)])]) r.n=o5 at *
  refine Holds.of_body' (fn:=Tryz.f35) 24 0 [.cell 6 40,.tmp 7] Tryz.func35 rfl rfl rfl rfl rfl (by simp) ?_
  ((refine Vb @hps ?_)<;>try with_reducible intro K hK)
  (refine Xn [] (hall) ?_;simp (disch:=omega) only[Ac,↓Pc,simprocAttr,rows_ren])
  repeat' (first|((fail_if_success (first|refine W_at 7 ?_|refine W_atE 7 ?_));refine Xr (X2 @hps @tyFn) ?_;intro K hK)|(refine hK _ ?_;clear hK K)|refine XY ?_|fail)
  refine W_turn (Turns.nilC 8 0 5 rfl rfl (by decide)) ?_
  refine W_turn (σ':=⟨slots [(3,.ptr 0 0 0),(4,.ptr 1 0 0),(6,.ptr 3 0 0),(7,.lit (.bool false)),(9,.ptr 6 0 0),(11,.ptr 8 0 0),(12,.ptr 9 0 0)],[.var (eMdl m),.var [pv,.lit (.int .i64 t0),.lit (.int .i64 1099511627776),.lit (.slice none 0 0)],.var [.lit (.int .i64 spl)],.var [.lit (.slice none 0 0),.lit (.int .i64 0),.lit (.int .i64 0),.lit (.slice none 0 0)],.arr 1 (rowsOf eBs (allT m)),.var [.ref 4 1 0 (allT m).length],.var [.lit (.bool true)],.var [.lit (.int .i64 19999)],.var [.ref 10 5 0 0],.var [.fn 72 capsD],.arr 5 []]⟩) (Xv X0) ?_
  unfold capsD at hdn ⊢
  ((refine Vb @tyFn ?_)<;>try with_reducible intro K hK)
  refine callK_all hdn (by rw[ho5];exact hol) ?_
  have e8:o5[8]?=some (.var [.ref r.p 5 0 r.R.length]):=qB_at hF6 (b:=(8,.var [.ref r.p 5 0 r.R.length])) (by simp[bB])
  have e1:o5[1]?=some (.var [planA pv t0 r.s,.lit (.int .i64 r.s.tot),.lit (.int .i64 r.s.bnd),.lit (.slice none 0 0)]):=qB_at hF6 (b:=(1,outO pv t0 r.s)) (by simp[bB])
  have e6:o5[6]?=some (.var [.lit (.bool r.s.whole)]):=qB_at hF6 (b:=(6,.var [.lit (.bool r.s.whole)])) (by simp[bB])
  have e3:o5[3]?=some (.var [.lit (.slice none 0 0),.lit (.int .i64 0),.lit (.int .i64 0),.lit (.slice none 0 0)]):=qB_C hF6 (b:=(3,.var [.lit (.slice none 0 0),.lit (.int .i64 0),.lit (.int .i64 0),.lit (.slice none 0 0)])) (by simp)
  have hsa:scal (planA pv t0 r.s)=true:=by unfold planA;split<;>first|rfl|exact hps
  have hna:=noRef_planA (t0:=t0) (s:=r.s) hpv
  have hF7:=hF6.perm qB_in.symm
  unfold qB bB at hF7
  simp only[List.cons_append,List.nil_append] at hF7
  have hF8:=(((hF7.front [_,_]).put (.var [planA pv t0 r.s,.lit (.int .i64 r.s.tot),.lit (.int .i64 r.s.bnd),.ref r.p 5 0 r.R.length])).perm (List.Perm.swap _ _ _)).put (.var [planA pv t0 r.s,.lit (.int .i64 r.s.tot),.lit (.int .i64 r.s.bnd),.ref r.p 5 0 r.R.length])
  have hfp:=hF8.at_ (r.p,.arr 5 (rowsOf rwR r.R)) (by simp)
  have hfb:∀ b∈rwB r.R,_:=fun b hb=>hF8.at_ b (by simp[hb])
  clear hF7 hF6 hF8 hdo hF0 hall hdn
  generalize hP:planA pv t0 r.s=pa at *
  have d6:=fun x=>(show (o5.set 1 x)[6]?=some (.var [.lit (.bool r.s.whole)]) by rw[List.getElem?_set_ne (by decide)];exact e6)
  have d1:=fun x=>(show (o5.set 1 x)[1]?=some x from oSe e1)
  have d3:=fun x=>(show (o5.set 1 x)[3]?=some (.var [.lit (.slice none 0 0),.lit (.int .i64 0),.lit (.int .i64 0),.lit (.slice none 0 0)]) by rw[List.getElem?_set_ne (by decide)];exact e3)
  have d33:=fun x y=>(show ((o5.set 1 x).set 3 y)[3]?=some y from oSe (d3 x))
  have d36:=fun x y=>(show ((o5.set 1 x).set 3 y)[6]?=some (.var [.lit (.bool r.s.whole)]) by rw[List.getElem?_set_ne (by decide)];exact d6 x)
  simp (disch:=omega) only[Ac,↓Pc,simprocAttr]
  refine hK _ ?_
  clear hK K
  repeat (refine Xu ?_)
  refine Vb (X5 @e8 @e1 @d1 @d6 (X4 @d3 @d33 @hsa @hps)) ?_
  refine W_draw [] (.take 0 (.both 1 (.take 2 (.take 3 .nil)) 2 (.take 1 (.take 3 .nil)))) rfl (by decide) (by decide +kernel) ?_
  simp (disch:=omega) only[Ac,↓Pc,simprocAttr,Pw,d1,d6,d3,d33,d36,hsa,hps]
  all_goals
    repeat (refine Xu ?_)
    refine Vb (X3 @d33 @hsa @hps) ?_
    simp (disch:=omega) only[Ac,↓Pc,simprocAttr,rowOf,d33]
  all_goals
    refine RetOK_sel [] true (by decide) trivial (by decide) (by decide) (ArgR.tup2 (ArgR.agg _ _ rfl (ArgsR.spec (R:=ArgR _ _ _ _) (cs:=[pa,.lit (.int .i64 r.s.tot),.lit (.int .i64 r.s.bnd),.tree 5 (rowsOf eNd r.s.nodes)]) (ds:=[pa,.lit (.int .i64 r.s.tot),.lit (.int .i64 r.s.bnd),.ref r.p 5 0 r.R.length]) ⟨.pure hna,.pure rfl,.pure rfl,.snap _ _ rfl ?_,trivial⟩).2) (.pure rfl))
    rw[hag]
    exact frzP hfp hfb (fun i h=>by obtain ⟨j,hj,_⟩:=h;cases hj)
def outA (s:DS):AV:=.agg [planA (.lit (.slice none 0 0)) 1099511627776 s,.lit (.int .i64 s.tot),.lit (.int .i64 s.bnd),.tree 5 (rowsOf eNd s.nodes)]
theorem leastGood_ok (m:Mdl) (hm:VM m) (hw:(leastD m).whole=true):Holds Tryz.prog 15 [.agg (eMdl m)] [] (.tup [outA (leastD m),.lit (.int .i64 0)]) []:=by
  have h1:=valid_ok m hm.mb
  rw[valid_iff.2 hm] at h1
  have hg:=grow_ok m hm 20000 (by decide) [] 1099511627776 (.lit (.slice none 0 0)) rfl rfl 0
  rw[show growD m 20000 [] 1099511627776=leastD m from rfl,hw] at hg
  unfold outA
  generalize leastD m=s at *
  have hsa:scal (planA (.lit (.slice none 0 0)) 1099511627776 s)=true:=by unfold planA;split<;>rfl
  have hna:=noRef_planA (pv:=.lit (.slice none 0 0)) (t0:=1099511627776) (s:=s) rfl
  have hrp:∀ ρ,ren ρ (planA (.lit (.slice none 0 0)) 1099511627776 s)=planA (.lit (.slice none 0 0)) 1099511627776 s:=fun ρ=>by unfold planA;split<;>rfl
  generalize planA (.lit (.slice none 0 0)) 1099511627776 s=pa at *
  refine Holds.of_body' (fn:=Tryz.f15) 23 0 [.cell 2 40,.tmp 3] Tryz.func15 rfl rfl rfl rfl rfl (by simp) ?_
  ((repeat' (first|refine Vd (X2 @hsa @bne_self_eq_false.{0}) h1 ?_|(refine Xi ?_ ?_<;>try intro ht)|exact Xx|fail))<;>try with_reducible intro K hK)
  (refine Xn [] (hg) ?_;simp (disch:=omega) only[Ac,↓Pc,simprocAttr,hrp])
  ((try revert hK K);(repeat' (first|refine Vb (X3 @hsa @hrp @Bool.not_true) ?_|(refine Xi ?_ ?_<;>try intro ht)|exact Xx|fail)))
  all_goals try (exfalso;simp_all;done)
  all_goals
    simp (disch:=omega) only[Ac,↓Pc,simprocAttr,rowOf]
    exact RetOK_pure' (by simp[noRef,noRefL,hna]) rfl
def oW:Opt:=⟨0,0,0,0,0,[]⟩
def mW:Mdl:=⟨[[oW,oW],[oW]],[⟨0,1,0,[1099511627776,4]⟩],[],1⟩
theorem mW_vm:VM mW:=valid_iff.1 (by decide +kernel)
theorem lW_plan:(leastD mW).plan=[1,0]:=by decide +kernel
theorem lW_tot:(leastD mW).tot=4:=by decide +kernel
theorem lW_chk:chkV mW (leastD mW).nodes=(4,true):=by
  have:=(least_law mW_vm (.inr (by decide))).2.2.2.1
  rwa [lW_tot] at this
theorem lW_whole:(leastD mW).whole=true:=(least_law mW_vm (.inr (by decide))).1
theorem awakeB_ok:Holds Tryz.prog 9 [] [] (.lit (.bool true)) []:=by
  have h1:=leastGood_ok mW mW_vm lW_whole
  have h2:=check_ok mW (leastD mW).nodes mW_vm.mb (least_pb mW_vm).1
  rw[lW_chk] at h2
  have h3:=bPlans_ok mW mW_vm.mb
  rw[show plansV mW=2 by decide +kernel] at h3
  have h4:=same_ok [1,0] [1,0] (by decide)
  rw[show decide (([1,0]:List Int)=[1,0])=true from rfl] at h4
  have hout:outA (leastD mW)=.agg [.tree 1 (ints [1,0]),.lit (.int .i64 4),.lit (.int .i64 (leastD mW).bnd),.tree 5 (rowsOf eNd (leastD mW).nodes)]:=by
    unfold outA planA
    rw[lW_plan,lW_tot];rfl
  rw[hout] at h1
  generalize (leastD mW).nodes=P at *
  generalize (leastD mW).bnd=b at *
  clear hout
  refine Holds.of_body' (fn:=Tryz.f9) 53 0 [.tmp 0] Tryz.func9 rfl rfl rfl rfl rfl (by simp) ?_
  repeat' (first|((fail_if_success (first|refine W_at 1 ?_|refine W_atE 1 ?_));refine Xr X0 ?_;intro K hK)|(refine hK _ ?_;clear hK K)|refine XY ?_|fail)
  have hr1:∀ (σ:St) (kp:Nat→Prop),RowsR (Frz σ kp) (rowsOf eOpt [oW]) [[.lit (.int .i64 0),.lit (.int .i64 0),.lit (.int .i64 0),.lit (.int .i64 0),.lit (.int .i64 0),.lit (.slice none 0 0)]]:=fun σ kp =>
    ⟨⟨.lit _,.lit _,.lit _,.lit _,.lit _,.nil 2,trivial⟩,trivial⟩
  have hr2:∀ (σ:St) (kp:Nat→Prop),RowsR (Frz σ kp) (rowsOf eOpt [oW,oW]) [[.lit (.int .i64 0),.lit (.int .i64 0),.lit (.int .i64 0),.lit (.int .i64 0),.lit (.int .i64 0),.lit (.slice none 0 0)],[.lit (.int .i64 0),.lit (.int .i64 0),.lit (.int .i64 0),.lit (.int .i64 0),.lit (.int .i64 0),.lit (.slice none 0 0)]]:=fun σ kp =>
    ⟨⟨.lit _,.lit _,.lit _,.lit _,.lit _,.nil 2,trivial⟩,⟨.lit _,.lit _,.lit _,.lit _,.lit _,.nil 2,trivial⟩,trivial⟩
  refine W_region_te 10 (by decide) ?_
  intro K K1 hK hK1
  simp (disch:=omega) only[Ac,↓Pc,simprocAttr,List.take]
  refine hK1 _ ⟨slots [(15,.agg (eMdl mW))],[]⟩ ?_ ?_
  · refine Turns.sel [] true _ _ (by decide) trivial (by decide) (by decide) ⟨?_,trivial⟩
    simp only[Kc,simprocAttr]
    refine ArgR.agg _ _ rfl (ArgsR.spec (R:=ArgR _ _ _ _) (cs:=eMdl mW) (ds:=[.ref 2 1 0 2,.ref 4 4 0 1,.lit (.slice none 0 0),.lit (.int .i64 1)]) ⟨.snap _ _ rfl ?_,.snap _ _ rfl ?_,.snap _ _ rfl (.nil 4),.pure rfl,trivial⟩).2
    · exact Frz.mk rfl rfl (not_kept (by decide)) (rows_wid _) ⟨⟨Frz.mk rfl rfl (not_kept (by decide)) (rows_wid _) (hr2 _ _),trivial⟩,⟨Frz.mk rfl rfl (not_kept (by decide)) (rows_wid _) (hr1 _ _),trivial⟩,trivial⟩
    · exact Frz.mk rfl rfl (not_kept (by decide)) (rows_wid _) ⟨⟨.lit _,.lit _,.lit _,Frz.mk rfl rfl (not_kept (by decide)) (ints_wid _) ⟨⟨.lit _,trivial⟩,⟨.lit _,trivial⟩,trivial⟩,trivial⟩,trivial⟩
  clear hK1 K1 hr1 hr2
  simp (disch:=omega) only[Ac,↓Pc,simprocAttr,List.drop]
  refine hK _ ?_
  clear hK K
  generalize mW=m at *
  repeat (refine Xu ?_)
  ((refine Vd X0 (X2 h1 h2) ?_)<;>try with_reducible intro K hK)
  (refine Xf [] (h4) ?_;simp (disch:=omega) only[Ac,↓Pc,simprocAttr])
  ((try revert hK K);(refine Vd X0 h3 ?_))
  all_goals exact RetOK_pure' rfl rfl
end T

