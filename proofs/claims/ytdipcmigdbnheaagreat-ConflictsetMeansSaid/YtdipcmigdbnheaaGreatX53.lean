import Derived.Test.YtdipcmigdbnheaaGreatX49
import Derived.Test.YtdipcmigdbnheaaGreatX45
import Derived.Test.YtdipcmigdbnheaaGreatX51
import Derived.Test.YtdipcmigdbnheaaGreatX52
import Derived.Test.YtdipcmigdbnheaaGreatX34
import Derived.Test.YtdipcmigdbnheaaGreatX38
import Derived.Test.YtdipcmigdbnheaaGreatX10
set_option linter.unusedVariables false
set_option linter.unusedSimpArgs false
set_option linter.unnecessarySimpa false
set_option linter.unusedSectionVars false
set_option maxHeartbeats 64000000
set_option maxRecDepth 20000
open List renaming isEmpty_iff→Jz,take→kW,drop→ky
open Nat renaming zero_le→aM
open And renaming intro→fB
open Go Go.Am Go.Proofs
open Nat (reduceEqDiff reduceAdd reduceLeDiff reduceMul)
open Int (reduceNeg reduceLE reduceToNat)
namespace T
theorem Zv (m:aj) (hm:MB m):an Tryz.prog 30 [.agg (ar m)] [] (.bG [.tree 1 (ints (sS m).1),.lit (.int .i64 (sS m).2)]) []:=by
  by_cases hv:dz m=0
  · rw[show sS m=sT m by unfold sS;rw[if_neg (by omega)]]
    exact Zw m (eB.1 hv)
  · rw[show sS m=([],dz m) by unfold sS;rw[if_pos hv]]
    have h1:=AH m hm
    generalize dz m=e at *
    refine an.aD (fn:=Tryz.f30) 60 0 [.tmp 2,.tmp 3] Tryz.func30 rfl rfl rfl rfl rfl (by simp) ?_
    ((repeat' (first|refine Vd X0 h1 ?_|(refine Xi ?_ ?_<;>try intro ht)|exact Xx|fail)))
    all_goals exact cP [] true (by decide) trivial (by decide) (by decide) (aE.mX aE.nil (.pure rfl))
def Zx:bx:=⟨0,0,0,0,0,[(1,1099511627776)]⟩
def kj:aj:=⟨[[Zx]],[],[],3⟩
theorem pF:VM kj:=eB.1 (by decide +kernel)
theorem yF:eC kj≤1000:=by decide +kernel
theorem Dt:jK kj=([1],0):=by
  rw[Du pF yF]
  decide +kernel
theorem Zy:yG kj qx=false:=by decide +kernel
theorem Zz:∀ x∈(tryD (bN kj [1])).nodes,x.eU=[]∧x.dt=[]:=by
  have h:((tryD (bN kj [1])).nodes.all fun x=>x.eU.isEmpty && x.dt.isEmpty)=true:=by decide +kernel
  intro x hx
  have:=List.all_eq_true.1 h x hx
  rw[Bool.and_eq_true,Jz,Jz] at this
  exact this
theorem N3:CB qx:=⟨by decide,by decide,fun _ h=>(by cases h),⟨by decide,fun _ h=>(by cases h),fun _ h=>(by cases h),fun _ h=>(by cases h),fun _ h=>(by cases h),fun _ h=>(by cases h)⟩⟩
theorem N4 {m:aj} (hm:VM m) (hp:eC m≤1000) {l:List Int} (h:sU m l):CB (lg m l):=by
  have hl:=(h.ru hm).1
  refine⟨by show l.length<_;omega,by unfold lg;dsimp only;rw[List.length_map];omega,fun p cT=>?_,(N5 (r:=bN m l) (ud hm _) (show eC (bN m l)≤1000 by rw[AI hm];exact hp)).1⟩
  unfold lg at cT
  obtain ⟨n,hn,rfl⟩:=List.mem_map.1 cT
  have hv:VM (bN m (bU l n)):=ud hm _
  have jd:=h.one n hn
  have cq:eC (bN m (bU l n))≤1000:=by rw[AI hm];exact hp
  have h1:=(GZ hv cq (fun e=>by
    have:=(AJ hv cq).2.2.1 e
    unfold iC at jd
    rw[decide_eq_true_eq] at jd
    exact this jd)).1
  have:=h1.len
  have:=hv.cls
  omega
theorem wZ:an Tryz.prog 27 [] [] (.lit (.bool true)) []:=by
  have cF:=Dv pF yF (by rw[Dt])
  have h1:=N6 kj pF.mb
  rw[show ik kj=([1],0) by unfold ik;rw[if_neg (by rw[eB.2 pF];simp)];exact Dt] at h1
  have h2:=N7 kj pF.mb (fun _=>yF)
  rw[show pG kj=(lg kj [1],0) by unfold pG;rw[if_neg (by rw[eB.2 pF];simp),Dt];rfl] at h2
  rw[Dt] at cF
  have h3:=N8 kj pF.mb (lg kj [1]) (N4 pF yF cF) fun _ _=>N9 (bN kj [1]) (tryD (bN kj [1])).nodes Zz rfl (yH pF [1]).mb (N4 pF yF cF).w0
  rw[ZA pF yF cF] at h3
  have h4:=N8 kj pF.mb qx N3 fun _ _=>N9 (bN kj []) [] (fun x hx=>by cases hx) rfl (yH pF []).mb N3.w0
  rw[Zy] at h4
  have h5:=N' [1] [1] (by decide)
  rw[show decide (([1]:List Int)=[1])=true from rfl] at h5
  dsimp only at h1 h2
  unfold pH at h2 h3
  unfold lg at h2 h3
  dsimp only at h2 h3
  generalize (tryD (bN kj [1])).nodes=P at *
  generalize ([1].map fun n=>(tryD (bN kj (bU [1] n))).plan)=S at *
  refine an.aD (fn:=Tryz.f27) 44 0 [.tmp 0] Tryz.func27 rfl rfl rfl rfl rfl (by simp) ?_
  repeat' (first|((fail_if_success (first|refine ej 1 ?_|refine ek 1 ?_));refine Xr X0 ?_;intro K hK)|(refine hK _ ?_;clear hK K)|refine XY ?_|fail)
  refine GX 6 (by decide) ?_
  intro K K1 hK vp
  simp (disch:=omega) only[Ac,↓Pc,simprocAttr,kW]
  refine vp _ ⟨aw [(11,.agg (ar kj))],[]⟩ ?_ ?_
  · refine aB.ak [] true _ _ (by decide) trivial (by decide) (by decide) ⟨?_,trivial⟩
    simp only[Kc,simprocAttr]
    refine aE.agg _ _ rfl (dY.spec (R:=aE _ _ _ _) (cs:=ar kj) (ds:=[.ref 2 1 0 1,.lit (.slice none 0 0),.lit (.slice none 0 0),.lit (.int .i64 3)]) ⟨.snap _ _ rfl ?_,.snap _ _ rfl (.nil 4),.snap _ _ rfl (.nil 4),.pure rfl,trivial⟩).2
    exact cg.mk rfl rfl (gK (by decide)) (eT _) ⟨⟨cg.mk rfl rfl (gK (by decide)) (eT _) ⟨⟨.lit _,.lit _,.lit _,.lit _,.lit _,cg.mk rfl rfl (gK (by decide)) (eT _) ⟨⟨.lit _,.lit _,trivial⟩,trivial⟩,trivial⟩,trivial⟩,trivial⟩,trivial⟩
  clear vp K1
  simp (disch:=omega) only[Ac,↓Pc,simprocAttr,ky]
  refine hK _ ?_
  clear hK K
  generalize kj=m at *
  repeat (refine Xu ?_)
  ((refine Vd X0 (X2 h1 h2) ?_)<;>try with_reducible intro K hK)
  (refine Xf [] (h5) ?_;simp (disch:=omega) only[Ac,↓Pc,simprocAttr])
  ((try revert hK K);(refine Vd X0 h3 ?_)<;>try with_reducible intro K hK)
  refine nI [] h4 (by decide) trivial ⟨.pure rfl,(aE.agg _ _ rfl (dY.spec (R:=aE _ _ _ _) (cs:=pH qx) (ds:=[.lit (.slice none 0 0),.lit (.slice none 0 0),.lit (.slice none 0 0)]) ⟨aE.nil,aE.nil,aE.nil,trivial⟩).2),trivial⟩ rfl (by simp) ?_
  simp (disch:=omega) only[Ac,↓Pc,simprocAttr]
  ((try revert hK K);(refine Vb X0 ?_))
  all_goals exact aK rfl rfl
theorem ZB {m:aj} (h:dz m≠0):ik m=sS m:=by unfold ik sS;rw[if_pos h,if_pos h]
theorem ZC {m:aj} (h:TM m):ik m=sS m:=by
  by_cases hv:dz m=0
  · unfold ik sS
    rw[if_neg (by omega),if_neg (by omega)]
    exact Du (eB.1 hv) (h.l7 (eB.1 hv))
  · exact ZB hv
theorem ZD {m:aj} (h:TM m):(ik m).1.length≤1000:=by
  unfold ik
  by_cases hv:dz m=0
  · rw[if_neg (by omega)]
    have hm:=eB.1 hv
    by_cases he:(jK m).2=0
    · exact ((Dv hm (h.l7 hm) he).ru hm).1
    · rw[ZE hm (h.l7 hm) he];exact aM _
  · rw[if_pos hv];exact aM _
theorem ZF {m:aj} (h:TM m):(ik m).2≠0∧pG m=(qx,(ik m).2)∨(ik m).2=0∧VM m∧sU m (ik m).1∧pG m=(lg m (ik m).1,0):=by
  unfold ik pG
  by_cases hv:dz m=0
  · have hm:=eB.1 hv
    rw[if_neg (by omega),if_neg (by omega)]
    by_cases he:(jK m).2=0
    · rw[if_neg (by omega)]
      exact .inr ⟨he,hm,Dv hm (h.l7 hm) he,rfl⟩
    · rw[if_pos he]
      exact .inl ⟨he,rfl⟩
  · rw[if_pos hv,if_pos hv]
    exact .inl ⟨hv,rfl⟩
theorem afD (tape:List Int):an Tryz.prog 6 [.tree 1 (ints tape)] [] (.lit (.bool true)) []:=by
  refine an.aD (fn:=Tryz.f6) 40 0 [.tmp 2] Tryz.func6 rfl rfl rfl rfl rfl (by simp) ?_
  repeat' (first|((fail_if_success (first|refine ej 3 ?_|refine ek 3 ?_));refine Xq X0 ?_;intro K hK)|refine Xo X0 ?_|refine Xc (Oa _) ?_|refine Xc (wZ) ?_|(refine hK _ ?_;clear hK K)|(refine Xi ?_ ?_<;>try intro ht)|refine XY ?_|fail)
  · exact aK rfl rfl
  have hL:tape.length<1000000:=by omega
  have il:=Od tape 0 (aM _) hL
  refine qv 2 (by decide) _ rfl ?_
  intro K hK
  simp (disch:=omega) only[Ac,↓Pc,simprocAttr,kW,ky]
  (refine Xn [] (Oe tape) ?_;simp (disch:=omega) only[Ac,↓Pc,simprocAttr])
  unfold je at il
  refine⟨rfl,(show lZ Tryz.prog 28 [.ptr 0 0 0] (some 14) _ _ from ?_)⟩
  refine yy [0] il (by decide) ⟨rfl,trivial⟩ ⟨.eq rfl,trivial⟩ ?_
  rintro r os ⟨m,k,hm,hk,rfl,rfl⟩
  simp (disch:=omega) only[Ac,↓Pc,simprocAttr]
  refine hK _ ?_;clear hK K
  repeat (refine Xu ?_)
  refine bJ (σ':=⟨aw [(3,.ptr 0 0 0)],[.var (ar m)]⟩) (Xs false [1] X0) ?_
  clear il hk k hL
  have h1:=Of m hm.om.mb
  have h2:=N6 m hm.om.mb
  have h3:=Zv m hm.om.mb
  have hlen:=ZD hm
  rw[← ZC hm] at h3
  have h4:=N' (ik m).1 (ik m).1 (by omega)
  rw[decide_eq_true rfl] at h4
  generalize ik m=rd at *
  generalize eC m=pv at *
  ((repeat' (first|refine Vd (X2 @bne_self_eq_false.{0} @beq_self_eq_true.{0}) (X5 h1 h2 h3 h4 wZ) ?_|(refine Xi ?_ ?_<;>try intro ht)|fail)))
  all_goals exact aK rfl (by first|rfl|simp)
theorem afE (tape:List Int) (vq:Int) (hb:fc vq):an Tryz.prog 9 [.tree 1 (ints tape),.lit (.int .i64 vq)] [] (.lit (.bool true)) []:=by
  refine an.aD (fn:=Tryz.f9) 77 0 [.tmp 4] Tryz.func9 rfl rfl rfl rfl rfl (by simp) ?_
  repeat' (first|((fail_if_success (first|refine ej 3 ?_|refine ek 3 ?_));refine Xq X0 ?_;intro K hK)|refine Xo X0 ?_|refine Xc (Oa _) ?_|refine Xc (wZ) ?_|(refine hK _ ?_;clear hK K)|(refine Xg X0 ?_ ?_<;>try intro hb)|(refine Xi ?_ ?_<;>try intro ht)|refine XY ?_|refine Xd ?_ ?_|exact Xx|fail)
  · exact aK rfl rfl
  have hL:tape.length<1000000:=by omega
  have il:=Od tape 0 (aM _) hL
  refine qv 2 (by decide) _ rfl ?_
  intro K hK
  simp (disch:=omega) only[Ac,↓Pc,simprocAttr,kW,ky]
  (refine Xn [] (Oe tape) ?_;simp (disch:=omega) only[Ac,↓Pc,simprocAttr])
  unfold je at il
  refine⟨rfl,(show lZ Tryz.prog 28 [.ptr 0 0 0] (some 16) _ _ from ?_)⟩
  refine yy [0] il (by decide) ⟨rfl,trivial⟩ ⟨.eq rfl,trivial⟩ ?_
  rintro r os ⟨m,k,hm,hk,rfl,rfl⟩
  simp (disch:=omega) only[Ac,↓Pc,simprocAttr]
  refine hK _ ?_;clear hK K
  repeat (first|refine Xu ?_)
  refine bJ (σ':=⟨aw [(1,.lit (.int .i64 vq)),(5,.ptr 0 0 0)],[.var (ar m)]⟩) (Xs false [1] X0) ?_
  clear il hk k hL
  have h1:=Of m hm.om.mb
  have h2:=N7 m hm.om.mb hm.l7
  rcases ZF hm with ⟨he,hx⟩ | ⟨he,dM,cF,hx⟩
  · rw[hx] at h2
    clear hx
    unfold pH qx at h2
    dsimp only at h2
    generalize ik m=rd at *
    generalize eC m=pv at *
    ((try revert hK K);(repeat' (first|refine Vd (X2 @bne_self_eq_false.{0} @beq_self_eq_true.{0}) (X3 h1 h2 wZ) ?_|(refine V2 (X2 @bne_self_eq_false.{0} @beq_self_eq_true.{0}) ?_ ?_<;>try with_reducible intro hb)|(refine Xi ?_ ?_<;>try intro ht)|refine VD ?_ ?_|exact Xx|fail))<;>try with_reducible intro K hK)
    all_goals try (exfalso;omega)
    all_goals exact aK rfl (by first|rfl|simp)
  · rw[hx] at h2
    have l8:=cF.ru dM
    have hlen:=l8.1
    have AK:=fun b=>Og m dM (ik m).1 l8 b
    have h3:=AK (-1)
    rw[ZG l8,cF.no] at h3
    have jd:=cF.one
    have ei:=l8.2
    have cd:(lg m (ik m).1).rules=(ik m).1:=rfl
    generalize lg m (ik m).1=c at *
    unfold pH at h2
    rw[cd] at h2
    dsimp only at h2
    (try clear he;clear hx cF cd)
    generalize (ik m).1=l at *
    generalize c.nodes=P at *
    generalize c.sV=S at *
    generalize Dw:eC m=pv at *
    repeat' (first|((fail_if_success (first|refine ej 7 ?_|refine ek 7 ?_));refine Xq (X2 @bne_self_eq_false.{0} @beq_self_eq_true.{0}) ?_;intro K hK)|refine Xo (X2 @bne_self_eq_false.{0} @beq_self_eq_true.{0}) ?_|refine Xc (h1) ?_|refine Xc (h2) ?_|refine Xc (wZ) ?_|(refine hK _ ?_;clear hK K)|(refine Xg (X2 @bne_self_eq_false.{0} @beq_self_eq_true.{0}) ?_ ?_<;>try intro hb)|(refine Xi ?_ ?_<;>try intro ht)|refine Xy ?_|refine Xd ?_ ?_|exact Xx|fail)
    all_goals try (exfalso;omega)
    · exact aK rfl rfl
    refine bJ (aB.l6 5 0 (cells:=ar m) (by rfl) (by simp only[Kc,simprocAttr]) (by simp[ar])) ?_
    refine bJ (aB.l6 6 1 (cells:=[.tree 1 (ints l),.tree 5 (rowsOf cL P),.tree 1 (fE S)]) (by rfl) (by simp only[Kc,simprocAttr]) (by simp)) ?_
    clear h1 h2
    ((try revert hK K);(repeat' (first|refine Va X0 ?_|(refine V2 X0 ?_ ?_<;>try with_reducible intro hb)|(refine Xi ?_ ?_<;>try intro ht)|refine VD ?_ ?_|exact Xx|fail))<;>try with_reducible intro K hK)
    refine aU (fun i:Nat=>(⟨aw [(1,.lit (.int .i64 vq)),(5,.b7 (ar m)),(6,.b7 [.tree 1 (ints l),.tree 5 (rowsOf cL P),.tree 1 (fE S)]),(8,.lit (.int .i64 i))],[]⟩:St)) (fun i=>i≤l.length) (fun i=>l.length - i) 0 (aM _) (Xs false [] X0) ?_
    rintro i hi Ql aq av
    by_cases hi':i<l.length
    · have lG:=ei _ (aC (d:=(0:Int)) hi')
      generalize bE:l.getD i 0=n at *
      have d1:decide (n<0)=false:=decide_eq_false (by omega)
      have d2:decide (n ≥ m.rules)=false:=decide_eq_false (by omega)
      repeat' (first|((fail_if_success (first|refine ej 10 ?_|refine ek 10 ?_));refine Xr X0 ?_;intro K hK)|refine Xo X0 ?_|(refine hK _ ?_;clear hK K)|(refine Xg X0 ?_ ?_<;>try intro hb)|(refine Xi ?_ ?_<;>try intro ht)|refine Xy ?_|refine Xd ?_ ?_|exact Xx|fail)
      refine jT [1,4,8,11,13] (.take 0 (.take 1 (.take 2 (.take 3 (.take 4 (.take 5 (.take 6 (.take 7 (.take 8 (.take 9 (.take 10 (.take 11 (.take 12 (.take 13 (.take 14 (.take 15 .nil)))))))))))))))) rfl (by decide) (by decide +kernel) ?_
      simp (disch:=omega) only[Ac,↓Pc,simprocAttr,Pw,↓Lq,ar,bE,kd,d1,d2]
      repeat' (first|with_reducible refine fB ?_ ?_|omega|with_reducible rfl)
      repeat (first|refine Xu ?_)
      ((try revert hK K);(repeat' (first|refine Va X0 ?_|(refine V2 X0 ?_ ?_<;>try with_reducible intro hb)|(refine Xi ?_ ?_<;>try intro ht)|refine VD ?_ ?_|exact Xx|fail))<;>try with_reducible intro K hK)
      exact aq _ (i+1) (by omega) (by omega) (Xv X0)
    · obtain rfl:i=l.length:=by omega
      ((try revert hK K);(repeat' (first|refine Va X0 ?_|(refine V2 X0 ?_ ?_<;>try with_reducible intro hb)|(refine Xi ?_ ?_<;>try intro ht)|refine VD ?_ ?_|exact Xx|fail))<;>try with_reducible intro K hK)
      refine av _ _ rfl ?_;clear aq av Ql
      repeat (first|refine Xu ?_)
      repeat' (first|((fail_if_success (first|refine ej 15 ?_|refine ek 15 ?_));refine Xq (X2 @bne_self_eq_false.{0} @ar.eq_1) ?_;intro K hK)|refine Xo (X2 @bne_self_eq_false.{0} @ar.eq_1) ?_|refine Xc (h3) ?_|(refine hK _ ?_;clear hK K)|(refine Xg (X2 @bne_self_eq_false.{0} @ar.eq_1) ?_ ?_<;>try intro hb)|(refine Xi ?_ ?_<;>try intro ht)|refine Xy ?_|refine Xd ?_ ?_|exact Xx|fail)
      clear h3
      by_cases hl0:0<l.length
      · have ZH:=Oh vq (l.length:Int) (by unfold fc;omega)
        have ZI:0≤qy vq (l.length:Int)∧qy vq (l.length:Int)<(l.length:Int):=by
          unfold qy
          rw[if_neg (by omega)]
          exact⟨Int.emod_nonneg _ (by omega),Int.emod_lt_of_pos _ (by omega)⟩
        generalize qy vq (l.length:Int)=v at *
        have AL:=aC (l:=l) (i:=v.toNat) (d:=(0:Int)) (by omega)
        have h4:=AK (l.getD v.toNat 0)
        rw[jd _ AL] at h4
        generalize bE:l.getD v.toNat 0=n at *
        have d1:decide ((l.length:Int) > 0)=true:=decide_eq_true (by omega)
        refine jT [3,5,7,10,12,13] (.take 0 (.take 1 (.take 2 (.take 3 (.take 4 (.take 5 (.take 6 (.take 7 (.take 8 (.take 9 (.take 10 (.take 11 (.take 12 (.take 13 (.take 14 (.take 15 .nil)))))))))))))))) rfl (by decide) (by decide +kernel) ?_
        simp (disch:=omega) only[Ac,↓Pc,simprocAttr,Pw,↓Lq,ar,d1]
        repeat' (first|with_reducible refine fB ?_ ?_|omega|with_reducible rfl)
        refine bH ZH rfl rfl ?_
        simp (disch:=omega) only[Ac,↓Pc,simprocAttr,Pw,↓Lq,ar,bE,kd]
        repeat' (first|with_reducible refine fB ?_ ?_|omega|with_reducible rfl)
        refine bH h4 rfl rfl ?_
        simp (disch:=omega) only[Ac,↓Pc,simprocAttr,Pw,↓Lq,ar]
        repeat' (first|with_reducible refine fB ?_ ?_|omega|with_reducible rfl)
        repeat (first|refine Xu ?_)
        ((try revert hK K);(repeat' (first|refine Vd X0 wZ ?_|(refine V2 X0 ?_ ?_<;>try with_reducible intro hb)|(refine Xi ?_ ?_<;>try intro ht)|refine VD ?_ ?_|exact Xx|fail))<;>try with_reducible intro K hK)
        exact aK rfl rfl
      · have d1:decide ((l.length:Int) > 0)=false:=decide_eq_false (by omega)
        refine jT [3,5,7,10,12,13] (.take 0 (.take 1 (.take 2 (.take 3 (.take 4 (.take 5 (.take 6 (.take 7 (.take 8 (.take 9 (.take 10 (.take 11 (.take 12 (.take 13 (.take 14 (.take 15 .nil)))))))))))))))) rfl (by decide) (by decide +kernel) ?_
        simp (disch:=omega) only[Ac,↓Pc,simprocAttr,Pw,↓Lq,ar,d1]
        repeat' (first|with_reducible refine fB ?_ ?_|omega|with_reducible rfl)
        repeat (first|refine Xu ?_)
        ((try revert hK K);(repeat' (first|refine Vd X0 wZ ?_|(refine V2 X0 ?_ ?_<;>try with_reducible intro hb)|(refine Xi ?_ ?_<;>try intro ht)|refine VD ?_ ?_|exact Xx|fail))<;>try with_reducible intro K hK)
        exact aK rfl rfl
end T

