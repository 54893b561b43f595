import Derived.Test.YtafhoboejkcmiaaGreatX34
import Derived.Test.YtafhoboejkcmiaaGreatX36
import Derived.Test.YtafhoboejkcmiaaGreatX37
set_option linter.unusedVariables false
set_option linter.unusedSimpArgs false
set_option linter.unnecessarySimpa false
set_option linter.unusedSectionVars false
set_option maxHeartbeats 64000000
set_option maxRecDepth 20000
open Go Go.Am Go.Proofs
open Nat (reduceEqDiff reduceAdd reduceLeDiff reduceMul)
open Int (reduceNeg reduceLE reduceToNat)
namespace T
theorem w0_take {nb:List Int} {k:Nat} (h:k<nb.length):rowsOf eIt ((w0 nb).take k)++[[.lit (.int .i64 k),.lit (.int .i64 0),.lit (.int .i64 (nb.getD k 0))]]=rowsOf eIt ((w0 nb).take (k+1)):=by
  have e:(w0 nb).take (k+1)=(w0 nb).take k++[⟨(k:Int),0,nb.getD k 0⟩]:=by
    rw[List.take_add_one]
    congr 1
    unfold w0
    rw[List.getElem?_map,List.getElem?_range h];rfl
  rw[e]
  unfold rowsOf
  rw[List.map_append];rfl
def cntI (m:Mdl) (plan:List Int) (l:List It) (i:Nat):List It:=(l.take i).map (setO m plan)++l.drop i
theorem cntI_len (m:Mdl) (plan:List Int) (l:List It) (i:Nat):(cntI m plan l i).length=l.length:=by unfold cntI;simp;omega
theorem cntI_get {m:Mdl} {plan:List Int} {l:List It} {i:Nat} (h:i<l.length):(cntI m plan l i).getD i default=l.getD i default:=by
  unfold cntI
  have hl:((l.take i).map (setO m plan)).length=i:=by simp;omega
  rw[List.getD_eq_getElem?_getD,List.getElem?_append_right (by omega),hl,Nat.sub_self,List.getElem?_drop,Nat.add_zero,List.getD_eq_getElem?_getD]
theorem cntI_set {m:Mdl} {plan:List Int} {l:List It} {i:Nat} (h:i<l.length):(cntI m plan l i).set i (setO m plan (l.getD i default))=cntI m plan l (i+1):=by
  unfold cntI
  have hl:((l.take i).map (setO m plan)).length=i:=by simp;omega
  rw[List.set_append_right _ _ (by omega),hl,Nat.sub_self,List.drop_eq_getElem_cons h,List.set_cons_zero,List.take_add_one,List.getElem?_eq_getElem h,List.map_append,List.append_assoc,List.getD_eq_getElem?_getD,List.getElem?_eq_getElem h]
  rfl
theorem it_set3 (L:List It) (i:Nat) (a b c:Int):(rowsOf eIt L).set i [.lit (.int .i64 a),.lit (.int .i64 b),.lit (.int .i64 c)]=rowsOf eIt (L.set i ⟨a,b,c⟩):=it_set L i ⟨a,b,c⟩
theorem it_get (L:List It) (i:Nat) (h:i<L.length):(rowsOf eIt L)[i]?=some (eIt (L.getD i default)):=by
  unfold rowsOf
  rw[List.getElem?_map,List.getD_eq_getElem?_getD,List.getElem?_eq_getElem h];rfl
theorem saturate_ok (m:Mdl) (hm:VM m):Holds Tryz.prog 30 [.agg (eMdl m)] [] (.ref 0 1 0 (satV m).length) [.arr 1 (ints (satV m))]:=by
  have hm1:=hm.cls
  have hnb:=neighbours_ok m hm
  have hno:=none_ok m hm
  have hwd0:=wd0 (nbV_len m)
  have hsl:=(satV_pm m).len
  have hpm0:=noneV_pm m
  rw[← sat_law m]
  rw[← sat_law m] at hsl
  have hnbl:=nbV_len m
  have hp0l:=hpm0.len
  have hw0:=w0_len (nbV m)
  generalize hnb':nbV m=nb at *
  generalize hR:satP m m.cls.length (noneV m) (w0 nb)=R at *
  generalize noneV m=p0 at *
  generalize hcn:m.cls.length=n at *
  refine Holds.of_body' (fn:=Tryz.f30) 83 0 [.tmp 2] Tryz.func30 rfl rfl rfl rfl rfl (by simp) ?_
  ((try revert hK K);(repeat' (first|refine Vb X0 ?_|(refine V2 X0 ?_ ?_<;>try with_reducible intro hb)|(refine Xi ?_ ?_<;>try intro ht)|refine VD ?_ ?_|exact Xx|fail))<;>try with_reducible intro K hK)
  (refine Xn [] (hno) ?_;simp (disch:=omega) only[Ac,↓Pc,simprocAttr])
  ((try revert hK K);(repeat' (first|refine Vd X0 hnb ?_|(refine V2 X0 ?_ ?_<;>try with_reducible intro hb)|(refine Xi ?_ ?_<;>try intro ht)|refine VD ?_ ?_|exact Xx|fail))<;>try with_reducible intro K hK)
  refine W_turn (Turns.nilC 2 0 3 rfl rfl (by decide)) ?_
  refine W_loopS (fun k:Nat=>(⟨slots [(1,.ptr 0 0 0),(3,.ref 1 1 0 n),(4,.ptr 2 0 0),(13,.tree 1 (ints nb)),(14,.lit (.int .i64 nb.length)),(15,.lit (.int .i64 k))],[.var (eMdl m),.arr 1 (ints p0),.var [.ref 3 3 0 ((w0 nb).take k).length],.arr 3 (rowsOf eIt ((w0 nb).take k))]⟩:St))
    (fun k=>k≤nb.length) (fun k=>nb.length - k) 0 (Nat.zero_le _) (Xv X0) ?_
  rintro k hk Ql hnl hel
  by_cases hk':k<nb.length
  · have hw:=w0_take hk'
    have hwl:((w0 nb).take k).length=k:=by simp;omega
    have hwl2:((w0 nb).take (k+1)).length=k+1:=by simp;omega
    have hle:((w0 nb).take k).length+1=((w0 nb).take (k+1)).length:=by omega
    generalize (w0 nb).take k=xs at *
    generalize hnk:nb.getD k 0=nk at *
    ((try revert hK K);(repeat' (first|refine Va (X2 @hnk @hw) ?_|(refine V2 (X2 @hnk @hw) ?_ ?_<;>try with_reducible intro hb)|(refine Xi ?_ ?_<;>try intro ht)|refine VD ?_ ?_|exact Xx|fail))<;>try with_reducible intro K hK)
    all_goals try (exfalso;omega)
    exact hnl _ (k+1) (by omega) (by omega) (Xs false [0,1,2,5] @hle)
  · rw[List.take_of_length_le (by rw[hw0];omega)]
    ((try revert hK K);(repeat' (first|refine Va X0 ?_|(refine V2 X0 ?_ ?_<;>try with_reducible intro hb)|(refine Xi ?_ ?_<;>try intro ht)|refine VD ?_ ?_|exact Xx|fail))<;>try with_reducible intro K hK)
    refine hel _ _ rfl ?_;clear hnl hel Ql
    repeat (first|refine Xu ?_)
    clear hk hk'
    ((try revert hK K);(repeat' (first|refine Vb X0 ?_|(refine V2 X0 ?_ ?_<;>try with_reducible intro hb)|(refine Xi ?_ ?_<;>try intro ht)|refine VD ?_ ?_|exact Xx|fail))<;>try with_reducible intro K hK)
    refine W_loopS (fun z:List Int × List It × List It=>(⟨slots [(1,.ptr 0 0 0),(3,.ref 1 1 0 z.1.length),(4,.ptr 2 0 0)],[.var (eMdl m),.arr 1 (ints z.1),.var [.ref 3 3 0 z.2.1.length],.arr 3 (rowsOf eIt (z.2.1++z.2.2))]⟩:St))
      (fun z=>PM m z.1∧z.2.1.length+z.2.2.length≤24∧(∃ done,WD nb n done z.2.1)∧satP m z.2.1.length z.1 z.2.1=R) (fun z=>z.2.1.length) (p0,w0 nb,[]) ⟨hpm0,by simp[hw0];omega,⟨_,hwd0⟩,by dsimp only;rw[hw0,hnbl];exact hR⟩ (by simp only[List.append_nil,hp0l];exact Xv X0) ?_
    (try clear hnb;clear hwd0 hpm0 hR hno)
    rintro ⟨plan,l,t⟩ ⟨hpm,hlt,⟨done,hwd⟩,hr⟩ Ql hnl hel
    dsimp only at hpm hlt hwd hr ⊢
    have hpl:=hpm.len
    have happ:(l++t).length=l.length+t.length:=List.length_append
    by_cases hl0:0<l.length
    · ((try revert hK K);(repeat' (first|refine Va X0 ?_|(refine V2 X0 ?_ ?_<;>try with_reducible intro hb)|(refine Xi ?_ ?_<;>try intro ht)|refine VD ?_ ?_|exact Xx|fail))<;>try with_reducible intro K hK)
      have hlr:=hwd.near
      refine W_loopS (fun i:Nat=>(⟨slots [(1,.ptr 0 0 0),(3,.ref 1 1 0 plan.length),(4,.ptr 2 0 0),(30,.ref 3 3 0 l.length),(31,.lit (.int .i64 l.length)),(32,.lit (.int .i64 i))],[.var (eMdl m),.arr 1 (ints plan),.var [.ref 3 3 0 l.length],.arr 3 (rowsOf eIt (cntI m plan l i++t))]⟩:St))
        (fun i=>i≤l.length) (fun i=>l.length - i) 0 (Nat.zero_le _) (Xv X0) ?_
      rintro i hi Ql2 hnl2 hel2
      by_cases hi':i<l.length
      · have hgi:=cntI_get (m:=m) (plan:=plan) hi'
        have hsi:=cntI_set (m:=m) (plan:=plan) hi'
        have hcl:=cntI_len m plan l i
        have hxr:=hlr _ (getD_mem (l:=l) (i:=i) (d:=default) hi')
        generalize hxx:l.getD i default=x at *
        have hla:=hm.opt _ (getD_mem (l:=m.cls) (i:=x.cls.toNat) (d:=default) (by omega))
        generalize cntI m plan l i=L at *
        have hrow:=it_get (L++t) i (by simp;omega)
        have hrow2:(L++t).getD i default=x:=by rw[List.getD_eq_getElem?_getD,List.getElem?_append_left (by omega),← List.getD_eq_getElem?_getD];exact hgi
        rw[hrow2] at hrow
        have hLt:(L++t).length=L.length+t.length:=List.length_append
        have hs0:=it_set3 (L++t) i
        have hs1:=fun y:It=>it_set3 ((L++t).set i y) i
        have hr1:∀ y:It,(rowsOf eIt ((L++t).set i y))[i]?=some (eIt y):=fun y=>by
          rw[it_get _ _ (by simp;omega)]
          congr 2
          rw[List.getD_eq_getElem?_getD,List.getElem?_set_self (by simp;omega)];rfl
        generalize hlc:m.cls.getD x.cls.toNat default=lc at *
        ((try revert hK K);(repeat' (first|refine Va (X5 @hrow @eIt.eq_1 @hs0 @hs1 (X2 @hr1 @hlc)) ?_|(refine V2 (X5 @hrow @eIt.eq_1 @hs0 @hs1 (X2 @hr1 @hlc)) ?_ ?_<;>try with_reducible intro hb)|(refine Xi ?_ ?_<;>try intro ht)|refine VD ?_ ?_|exact Xx|fail))<;>try with_reducible intro K hK)
        have hwth:∀ j:Nat,j<lc.length→_:=fun j hj=>with_ok m plan x.cls j hm hpm hxr.1 (optB_iff.2 ⟨hxr.1,by omega,by omega,by rw[hlc];omega⟩)
        have hres:setO m plan x=⟨x.cls,cntV (chgF m plan x.cls.toNat) lc.length 0 0,x.near⟩:=by unfold setO cntM;rw[hlc]
        have hcf:∀ j:Nat,costP m (plan.set x.cls.toNat (j:Int))=chgF m plan x.cls.toNat j:=fun _=>rfl
        simp only[hcf] at hwth
        generalize hcv:cntV (chgF m plan x.cls.toNat) lc.length 0 0=cv at *
        generalize chgF m plan x.cls.toNat=f at *
        have hlen1:∀ y:It,((L++t).set i y).length=(L++t).length:=fun y=>List.length_set
        refine W_loopS (fun z:Nat × Int=>(⟨slots [(1,.ptr 0 0 0),(3,.ref 1 1 0 plan.length),(4,.ptr 2 0 0),(7,.lit (.int .i64 i)),(30,.ref 3 3 0 l.length),(31,.lit (.int .i64 l.length)),(32,.lit (.int .i64 i)),(48,.lit (.int .i64 lc.length)),(49,.lit (.int .i64 z.1))],[.var (eMdl m),.arr 1 (ints plan),.var [.ref 3 3 0 l.length],.arr 3 (rowsOf eIt ((L++t).set i ⟨x.cls,z.2,x.near⟩))]⟩:St))
          (fun z=>z.1≤lc.length∧0≤z.2∧z.2≤z.1∧cntV f (lc.length - z.1) z.1 z.2=cv) (fun z=>lc.length - z.1) (0,0) ⟨Nat.zero_le _,Int.le_refl _,Int.le_refl _,hcv⟩ (Xv X0) ?_
        clear hcv
        rintro ⟨j,a⟩ ⟨hj,ha0,ha1,hra⟩ Ql3 hnl3 hel3
        dsimp only at hj ha0 ha1 hra ⊢
        by_cases hj':j<lc.length
        · have hw:=hwth j hj'
          rw[show lc.length - j=(lc.length - (j+1))+1 by omega,cntV] at hra
          generalize f j=n1 at *
          ((try revert hK K);(repeat' (first|refine Va (X3 @eIt.eq_1 @hr1 @hs1) ?_|(refine V2 (X3 @eIt.eq_1 @hr1 @hs1) ?_ ?_<;>try with_reducible intro hb)|(refine Xi ?_ ?_<;>try intro ht)|refine VD ?_ ?_|exact Xx|fail))<;>try with_reducible intro K hK)
          (refine Xn [1] (hw) ?_;simp (disch:=omega) only[Ac,↓Pc,simprocAttr])
          ((try revert hK K);(repeat' (first|refine Va (X4 @eIt.eq_1 @hr1 @hs1 @List.set_set.{0}) ?_|(refine V2 (X4 @eIt.eq_1 @hr1 @hs1 @List.set_set.{0}) ?_ ?_<;>try with_reducible intro hb)|(refine Xi ?_ ?_<;>try intro ht)|refine VD ?_ ?_|exact Xx|fail))<;>try with_reducible intro K hK)
          · rw[if_pos (by assumption)] at hra
            exact hnl3 _ (j+1,a+1) ⟨by dsimp only;omega,by dsimp only;omega,by dsimp only;omega,hra⟩ (by dsimp only;omega) (Xv X0)
          · rw[if_neg (by omega)] at hra
            exact hnl3 _ (j+1,a) ⟨by dsimp only;omega,by dsimp only;omega,by dsimp only;omega,hra⟩ (by dsimp only;omega) (Xv X0)
        · rw[show lc.length - j=0 by omega,cntV] at hra
          subst hra
          ((try revert hK K);(repeat' (first|refine Va X0 ?_|(refine V2 X0 ?_ ?_<;>try with_reducible intro hb)|(refine Xi ?_ ?_<;>try intro ht)|refine VD ?_ ?_|exact Xx|fail))<;>try with_reducible intro K hK)
          refine hel3 _ _ rfl ?_
          clear hnl3 hel3
          repeat (first|refine Xu ?_)
          ((try revert hK K);(repeat' (first|refine Va X0 ?_|(refine V2 X0 ?_ ?_<;>try with_reducible intro hb)|(refine Xi ?_ ?_<;>try intro ht)|refine VD ?_ ?_|exact Xx|fail))<;>try with_reducible intro K hK)
          refine hnl2 _ (i+1) (by omega) (by omega) ?_
          rw[← hsi,hres,← List.set_append_left _ _ (by omega)]
          exact Xv X0
      · obtain rfl:i=l.length:=by omega
        rw[show cntI m plan l l.length=l.map (setO m plan) by unfold cntI;simp]
        have hpk:=rnd_pick (m:=m) (nb:=nb) (done:=done) (w:=l) (plan:=plan) (by rw[hcn];exact hwd) hl0
        rw[hcn] at hpk
        have hl1:(l.map (setO m plan)).length=l.length:=List.length_map ..
        have hrp:rndP m plan l=popL ltI (initL ltI (l.length / 2) (l.map (setO m plan)) l.length):=by unfold rndP;rw[hl1]
        have hin:=hInit_ok l.length (l.map (setO m plan)++t) (by rw[List.length_append];omega) (by rw[List.length_append];omega)
        rw[initL_app _ _ _ _ (by omega)] at hin
        have hl2:=(initL_perm (lt:=ltI) (l.length / 2) (l.map (setO m plan)) l.length (by omega)).length_eq
        generalize initL ltI (l.length / 2) (l.map (setO m plan)) l.length=l2 at *
        obtain ⟨k1,hk1⟩ :∃k1,l.length=k1+1:=⟨l.length - 1,by omega⟩
        have hpo:=hPop_ok k1 (k1+1) (l2++t) (by rw[List.length_append];omega) (by rw[List.length_append];omega) (by omega)
        rw[swapL_app (by omega) (by omega),downL_app _ _ _ _ _ (by rw[swapL_len];omega)] at hpo
        have hrl:=downL_len (lt:=ltI) (k1+1) (swapL l2 0 k1) 0 k1 (by rw[swapL_len];omega)
        rw[swapL_len] at hrl
        unfold popL at hrp
        rw[show l2.length=k1+1 by omega,Nat.add_sub_cancel] at hrp
        dsimp only at hrp
        generalize downL ltI (k1+1) (swapL l2 0 k1) 0 k1=r at *
        rw[show (r++t).getD k1 default=r.getD k1 default by rw[List.getD_eq_getElem?_getD,List.getElem?_append_left (by omega),← List.getD_eq_getElem?_getD]] at hpo
        rw[hk1,satP,hrp] at hr
        rw[hrp] at hpk
        obtain ⟨-,-,p3,p4,p5⟩:=hpk
        dsimp only at hr p3 p4 p5
        generalize hxx:r.getD k1 default=x at *
        rw[show eIt x=[.lit (.int .i64 x.cls),.lit (.int .i64 x.opt),.lit (.int .i64 x.near)] from rfl] at hpo
        have hpc:=place_ok m plan x.cls hm hpm (by omega)
        have hpm2:=plcM_pm hpm (c:=x.cls.toNat) (by omega)
        ((try revert hK K);(repeat' (first|refine Va X0 ?_|(refine V2 X0 ?_ ?_<;>try with_reducible intro hb)|(refine Xi ?_ ?_<;>try intro ht)|refine VD ?_ ?_|exact Xx|fail))<;>try with_reducible intro K hK)
        refine hel2 _ _ rfl ?_
        clear hnl2 hel2
        repeat (first|refine Xu ?_)
        ((try revert hK K);(repeat' (first|refine Va X0 ?_|(refine V2 X0 ?_ ?_<;>try with_reducible intro hb)|(refine Xi ?_ ?_<;>try intro ht)|refine VD ?_ ?_|exact Xx|fail))<;>try with_reducible intro K hK)
        (refine Xn [2,3] (hin) ?_;simp (disch:=omega) only[Ac,↓Pc,simprocAttr])
        ((try revert hK K);(repeat' (first|refine Va X0 ?_|(refine V2 X0 ?_ ?_<;>try with_reducible intro hb)|(refine Xi ?_ ?_<;>try intro ht)|refine VD ?_ ?_|exact Xx|fail))<;>try with_reducible intro K hK)
        rw[hk1]
        (refine Xn [2,3] (hpo) ?_;simp (disch:=omega) only[Ac,↓Pc,simprocAttr])
        ((try revert hK K);(repeat' (first|refine Va @eIt.eq_1 ?_|(refine V2 @eIt.eq_1 ?_ ?_<;>try with_reducible intro hb)|(refine Xi ?_ ?_<;>try intro ht)|refine VD ?_ ?_|exact Xx|fail))<;>try with_reducible intro K hK)
        (refine Xn [1] (hpc) ?_;simp (disch:=omega) only[Ac,↓Pc,simprocAttr])
        ((try revert hK K);(repeat' (first|refine Va X0 ?_|(refine V2 X0 ?_ ?_<;>try with_reducible intro hb)|(refine Xi ?_ ?_<;>try intro ht)|refine VD ?_ ?_|exact Xx|fail))<;>try with_reducible intro K hK)
        have happ2:r.take k1++(r.drop k1++t)=r++t:=by rw[← List.append_assoc,List.take_append_drop]
        have hrt:(r.take k1).length=k1:=by rw[List.length_take];omega
        refine hnl _ (plan.set x.cls.toNat (plcM m plan x.cls.toNat),r.take k1,r.drop k1++t) ⟨hpm2,?_,⟨_,p3⟩,?_⟩ ?_ ?_
        · dsimp only;rw[hrt,List.length_append,List.length_drop];omega
        · dsimp only;rw[hrt];exact hr
        · dsimp only;rw[hrt];omega
        · dsimp only
          rw[hrt,happ2,List.length_set]
          exact Xs false [0,1,2,3] X0
    · have hl1:l=[]:=List.eq_nil_of_length_eq_zero (by omega)
      subst hl1
      rw[List.length_nil,satP] at hr
      subst hr
      ((try revert hK K);(repeat' (first|refine Va X0 ?_|(refine V2 X0 ?_ ?_<;>try with_reducible intro hb)|(refine Xi ?_ ?_<;>try intro ht)|refine VD ?_ ?_|exact Xx|fail))<;>try with_reducible intro K hK)
      refine hel _ _ rfl ?_;clear hnl hel Ql
      repeat (first|refine Xu ?_)
      ((try revert hK K);(repeat' (first|refine Vb X0 ?_|(refine V2 X0 ?_ ?_<;>try with_reducible intro hb)|(refine Xi ?_ ?_<;>try intro ht)|refine VD ?_ ?_|exact Xx|fail))<;>try with_reducible intro K hK)
      exact Xw true [1] X0
end T

