import Derived.Test.YtmhloinjpcabcaaGreatX42
import Derived.Test.YtmhloinjpcabcaaGreatX43
import Derived.Test.YtmhloinjpcabcaaGreatX38
import Derived.Test.YtmhloinjpcabcaaGreatX29
import Derived.Test.YtmhloinjpcabcaaGreatX40
set_option linter.unusedVariables false
set_option linter.unusedSimpArgs false
set_option linter.unnecessarySimpa false
set_option linter.unusedSectionVars false
set_option maxHeartbeats 64000000
set_option maxRecDepth 20000
open Go Go.Am Go.Proofs
open Nat (reduceEqDiff reduceAdd reduceLeDiff reduceMul)
open Int (reduceNeg reduceLE reduceToNat)
namespace T
theorem w0_take {nb:List Int} {k:Nat} (h:k<nb.length):rowsOf eIt ((w0 nb).take k)++[[.lit (.int .i64 k),.lit (.int .i64 0),.lit (.int .i64 (nb.getD k 0))]]=rowsOf eIt ((w0 nb).take (k+1)):=by
  have e:(w0 nb).take (k+1)=(w0 nb).take k++[⟨(k:Int),0,nb.getD k 0⟩]:=by
    rw[List.take_add_one]
    congr 1
    unfold w0
    rw[List.getElem?_map,List.getElem?_range h];rfl
  rw[e]
  unfold rowsOf
  rw[List.map_append];rfl
def cntI (m:Mdl) (plan:List Int) (l:List It) (i:Nat):List It:=(l.take i).map (setO m plan)++l.drop i
theorem cntI_len (m:Mdl) (plan:List Int) (l:List It) (i:Nat):(cntI m plan l i).length=l.length:=by unfold cntI;simp;omega
theorem cntI_get {m:Mdl} {plan:List Int} {l:List It} {i:Nat} (h:i<l.length):(cntI m plan l i).getD i default=l.getD i default:=by
  unfold cntI
  have hl:((l.take i).map (setO m plan)).length=i:=by simp;omega
  rw[List.getD_eq_getElem?_getD,List.getElem?_append_right (by omega),hl,Nat.sub_self,List.getElem?_drop,Nat.add_zero,List.getD_eq_getElem?_getD]
theorem cntI_set {m:Mdl} {plan:List Int} {l:List It} {i:Nat} (h:i<l.length):(cntI m plan l i).set i (setO m plan (l.getD i default))=cntI m plan l (i+1):=by
  unfold cntI
  have hl:((l.take i).map (setO m plan)).length=i:=by simp;omega
  rw[List.set_append_right _ _ (by omega),hl,Nat.sub_self,List.drop_eq_getElem_cons h,List.set_cons_zero,List.take_add_one,List.getElem?_eq_getElem h,List.map_append,List.append_assoc,List.getD_eq_getElem?_getD,List.getElem?_eq_getElem h]
  rfl
theorem it_set3 (L:List It) (i:Nat) (a b c:Int):(rowsOf eIt L).set i [.lit (.int .i64 a),.lit (.int .i64 b),.lit (.int .i64 c)]=rowsOf eIt (L.set i ⟨a,b,c⟩):=it_set L i ⟨a,b,c⟩
theorem it_get (L:List It) (i:Nat) (h:i<L.length):(rowsOf eIt L)[i]?=some (eIt (L.getD i default)):=by
  unfold rowsOf
  rw[List.getElem?_map,List.getD_eq_getElem?_getD,List.getElem?_eq_getElem h];rfl
theorem saturate_ok (m:Mdl) (hm:VM m):Holds Tryz.prog 30 [.agg (eMdl m)] [] (.ref 0 1 0 (satV m).length) [.arr 1 (ints (satV m))]:=by
  have hm1:=hm.cls
  have hnb:=neighbours_ok m hm
  have hno:=none_ok m hm
  have hwd0:=wd0 (nbV_len m)
  have hsl:=(satV_pm m).len
  have hpm0:=noneV_pm m
  rw[← sat_law m]
  rw[← sat_law m] at hsl
  have hnbl:=nbV_len m
  have hp0l:=hpm0.len
  have hw0:=w0_len (nbV m)
  generalize hnb':nbV m=nb at *
  generalize hR:satP m m.cls.length (noneV m) (w0 nb)=R at *
  generalize noneV m=p0 at *
  generalize hcn:m.cls.length=n at *
  refine Holds.of_body' (fn:=Tryz.f30) 83 0 [.tmp 2] Tryz.func30 rfl rfl rfl rfl rfl (by simp) ?_
  ((try revert hK K);(repeat' (first|refine Vb X0 ?_|(refine V2 X0 ?_ ?_<;>try with_reducible intro hb)|(refine Xi ?_ ?_<;>try intro ht)|refine VD ?_ ?_|exact Xx|fail))<;>try with_reducible intro K hK)
  (refine Xn [] (hno) ?_;simp (disch:=omega) only[Ac,↓Pc,simprocAttr])
  ((try revert hK K);(repeat' (first|refine Vd X0 hnb ?_|(refine V2 X0 ?_ ?_<;>try with_reducible intro hb)|(refine Xi ?_ ?_<;>try intro ht)|refine VD ?_ ?_|exact Xx|fail))<;>try with_reducible intro K hK)
  refine W_turn (Turns.nilC 2 0 3 rfl rfl (by decide)) ?_
  refine W_loopS (fun k:Nat=>(⟨slots [(1,.ptr 0 0 0),(3,.ref 1 1 0 n),(4,.ptr 2 0 0),(13,.tree 1 (ints nb)),(14,.lit (.int .i64 nb.length)),(15,.lit (.int .i64 k))],[.var (eMdl m),.arr 1 (ints p0),.var [.ref 3 3 0 ((w0 nb).take k).length],.arr 3 (rowsOf eIt ((w0 nb).take k))]⟩:St))
    (fun k=>k≤nb.length) (fun k=>nb.length - k) 0 (Nat.zero_le _) (Xv X0) ?_
  rintro k hk Ql hnl hel
  by_cases hk':k<nb.length
  · have hw:=w0_take hk'
    have hwl:((w0 nb).take k).length=k:=by simp;omega
    have hwl2:((w0 nb).take (k+1)).length=k+1:=by simp;omega
    have hle:((w0 nb).take k).length+1=((w0 nb).take (k+1)).length:=by omega
    generalize (w0 nb).take k=xs at *
    generalize hnk:nb.getD k 0=nk at *
    ((try revert hK K);(repeat' (first|refine Va (X2 @hnk @hw) ?_|(refine V2 (X2 @hnk @hw) ?_ ?_<;>try with_reducible intro hb)|(refine Xi ?_ ?_<;>try intro ht)|refine VD ?_ ?_|exact Xx|fail))<;>try with_reducible intro K hK)
    all_goals try (exfalso;omega)
    exact hnl _ (k+1) (by omega) (by omega) (Xs false [0,1,2,5] @hle)
  · rw[List.take_of_length_le (by rw[hw0];omega)]
    ((try revert hK K);(repeat' (first|refine Va X0 ?_|(refine V2 X0 ?_ ?_<;>try with_reducible intro hb)|(refine Xi ?_ ?_<;>try intro ht)|refine VD ?_ ?_|exact Xx|fail))<;>try with_reducible intro K hK)
    refine hel _ _ rfl ?_;clear hnl hel Ql
    repeat (first|refine Xu ?_)
    clear hk hk'
    ((try revert hK K);(repeat' (first|refine Vb X0 ?_|(refine V2 X0 ?_ ?_<;>try with_reducible intro hb)|(refine Xi ?_ ?_<;>try intro ht)|refine VD ?_ ?_|exact Xx|fail))<;>try with_reducible intro K hK)
    refine W_loopS (fun z:List Int × List It × List It=>(⟨slots [(1,.ptr 0 0 0),(3,.ref 1 1 0 z.1.length),(4,.ptr 2 0 0)],[.var (eMdl m),.arr 1 (ints z.1),.var [.ref 3 3 0 z.2.1.length],.arr 3 (rowsOf eIt (z.2.1++z.2.2))]⟩:St))
      (fun z=>PM m z.1∧z.2.1.length+z.2.2.length≤24∧(∃ done,WD nb n done z.2.1)∧satP m z.2.1.length z.1 z.2.1=R) (fun z=>z.2.1.length) (p0,w0 nb,[]) ⟨hpm0,by simp[hw0];omega,⟨_,hwd0⟩,by dsimp only;rw[hw0,hnbl];exact hR⟩ (by simp only[List.append_nil,hp0l];exact Xv X0) ?_
    (try clear hnb;clear hwd0 hpm0 hR hno)
    rintro ⟨plan,l,t⟩ ⟨hpm,hlt,⟨done,hwd⟩,hr⟩ Ql hnl hel
    dsimp only at hpm hlt hwd hr ⊢
    have hpl:=hpm.len
    have happ:(l++t).length=l.length+t.length:=List.length_append
    by_cases hl0:0<l.length
    · ((try revert hK K);(repeat' (first|refine Va X0 ?_|(refine V2 X0 ?_ ?_<;>try with_reducible intro hb)|(refine Xi ?_ ?_<;>try intro ht)|refine VD ?_ ?_|exact Xx|fail))<;>try with_reducible intro K hK)
      have hlr:=hwd.near
      refine W_loopS (fun i:Nat=>(⟨slots [(1,.ptr 0 0 0),(3,.ref 1 1 0 plan.length),(4,.ptr 2 0 0),(30,.ref 3 3 0 l.length),(31,.lit (.int .i64 l.length)),(32,.lit (.int .i64 i))],[.var (eMdl m),.arr 1 (ints plan),.var [.ref 3 3 0 l.length],.arr 3 (rowsOf eIt (cntI m plan l i++t))]⟩:St))
        (fun i=>i≤l.length) (fun i=>l.length - i) 0 (Nat.zero_le _) (Xv X0) ?_
      rintro i hi Ql2 hnl2 hel2
      by_cases hi':i<l.length
      · have hgi:=cntI_get (m:=m) (plan:=plan) hi'
        have hsi:=cntI_set (m:=m) (plan:=plan) hi'
        have hcl:=cntI_len m plan l i
        have hxr:=hlr _ (getD_mem (l:=l) (i:=i) (d:=default) hi')
        generalize hxx:l.getD i default=x at *
        have hla:=hm.opt _ (getD_mem (l:=m.cls) (i:=x.cls.toNat) (d:=default) (by omega))
        generalize cntI m plan l i=L at *
        have hrow:=it_get (L++t) i (by simp;omega)
        have hrow2:(L++t).getD i default=x:=by rw[List.getD_eq_getElem?_getD,List.getElem?_append_left (by omega),← List.getD_eq_getElem?_getD];exact hgi
        rw[hrow2] at hrow
        have hLt:(L++t).length=L.length+t.length:=List.length_append
        have hs0:=it_set3 (L++t) i
        have hs1:=fun y:It=>it_set3 ((L++t).set i y) i
        have hr1:∀ y:It,(rowsOf eIt ((L++t).set i y))[i]?=some (eIt y):=fun y=>by
          rw[it_get _ _ (by simp;omega)]
          congr 2
          rw[List.getD_eq_getElem?_getD,List.getElem?_set_self (by simp;omega)];rfl
        generalize hlc:m.cls.getD x.cls.toNat default=lc at *
        ((try revert hK K);(repeat' (first|refine Va (X5 @hrow @eIt.eq_1 @hs0 @hs1 (X2 @hr1 @hlc)) ?_|(refine V2 (X5 @hrow @eIt.eq_1 @hs0 @hs1 (X2 @hr1 @hlc)) ?_ ?_<;>try with_reducible intro hb)|(refine Xi ?_ ?_<;>try intro ht)|refine VD ?_ ?_|exact Xx|fail))<;>try with_reducible intro K hK)
        have hwth:∀ j:Nat,j<lc.length→_:=fun j hj=>with_ok m plan x.cls j hm hpm hxr.1 (optB_iff.2 ⟨hxr.1,by omega,by omega,by rw[hlc];omega⟩)
        have hres:setO m plan x=⟨x.cls,cntV (chgF m plan x.cls.toNat) lc.length 0 0,x.near⟩:=by unfold setO cntM;rw[hlc]
        have hcf:∀ j:Nat,costP m (plan.set x.cls.toNat (j:Int))=chgF m plan x.cls.toNat j:=fun _=>rfl
        simp only[hcf] at hwth
        generalize hcv:cntV (chgF m plan x.cls.toNat) lc.length 0 0=cv at *
        generalize chgF m plan x.cls.toNat=f at *
        have hlen1:∀ y:It,((L++t).set i y).length=(L++t).length:=fun y=>List.length_set
        refine W_loopS (fun z:Nat × Int=>(⟨slots [(1,.ptr 0 0 0),(3,.ref 1 1 0 plan.length),(4,.ptr 2 0 0),(7,.lit (.int .i64 i)),(30,.ref 3 3 0 l.length),(31,.lit (.int .i64 l.length)),(32,.lit (.int .i64 i)),(48,.lit (.int .i64 lc.length)),(49,.lit (.int .i64 z.1))],[.var (eMdl m),.arr 1 (ints plan),.var [.ref 3 3 0 l.length],.arr 3 (rowsOf eIt ((L++t).set i ⟨x.cls,z.2,x.near⟩))]⟩:St))
          (fun z=>z.1≤lc.length∧0≤z.2∧z.2≤z.1∧cntV f (lc.length - z.1) z.1 z.2=cv) (fun z=>lc.length - z.1) (0,0) ⟨Nat.zero_le _,Int.le_refl _,Int.le_refl _,hcv⟩ (Xv X0) ?_
        clear hcv
        rintro ⟨j,a⟩ ⟨hj,ha0,ha1,hra⟩ Ql3 hnl3 hel3
        dsimp only at hj ha0 ha1 hra ⊢
        by_cases hj':j<lc.length
        · have hw:=hwth j hj'
          rw[show lc.length - j=(lc.length - (j+1))+1 by omega,cntV] at hra
          generalize f j=n1 at *
          ((try revert hK K);(repeat' (first|refine Va (X3 @eIt.eq_1 @hr1 @hs1) ?_|(refine V2 (X3 @eIt.eq_1 @hr1 @hs1) ?_ ?_<;>try with_reducible intro hb)|(refine Xi ?_ ?_<;>try intro ht)|refine VD ?_ ?_|exact Xx|fail))<;>try with_reducible intro K hK)
          (refine Xn [1] (hw) ?_;simp (disch:=omega) only[Ac,↓Pc,simprocAttr])
          ((try revert hK K);(repeat' (first|refine Va (X4 @eIt.eq_1 @hr1 @hs1 @List.set_set.{0}) ?_|(refine V2 (X4 @eIt.eq_1 @hr1 @hs1 @List.set_set.{0}) ?_ ?_<;>try with_reducible intro hb)|(refine Xi ?_ ?_<;>try intro ht)|refine VD ?_ ?_|exact Xx|fail))<;>try with_reducible intro K hK)
          · rw[if_pos (by assumption)] at hra
            exact hnl3 _ (j+1,a+1) ⟨by dsimp only;omega,by dsimp only;omega,by dsimp only;omega,hra⟩ (by dsimp only;omega) (Xv X0)
          · rw[if_neg (by omega)] at hra
            exact hnl3 _ (j+1,a) ⟨by dsimp only;omega,by dsimp only;omega,by dsimp only;omega,hra⟩ (by dsimp only;omega) (Xv X0)
        · rw[show lc.length - j=0 by omega,cntV] at hra
          subst hra
          ((try revert hK K);(repeat' (first|refine Va X0 ?_|(refine V2 X0 ?_ ?_<;>try with_reducible intro hb)|(refine Xi ?_ ?_<;>try intro ht)|refine VD ?_ ?_|exact Xx|fail))<;>try with_reducible intro K hK)
          refine hel3 _ _ rfl ?_
          clear hnl3 hel3
          repeat (first|refine Xu ?_)
          ((try revert hK K);(repeat' (first|refine Va X0 ?_|(refine V2 X0 ?_ ?_<;>try with_reducible intro hb)|(refine Xi ?_ ?_<;>try intro ht)|refine VD ?_ ?_|exact Xx|fail))<;>try with_reducible intro K hK)
          refine hnl2 _ (i+1) (by omega) (by omega) ?_
          rw[← hsi,hres,← List.set_append_left _ _ (by omega)]
          exact Xv X0
      · obtain rfl:i=l.length:=by omega
        rw[show cntI m plan l l.length=l.map (setO m plan) by unfold cntI;simp]
        have hpk:=rnd_pick (m:=m) (nb:=nb) (done:=done) (w:=l) (plan:=plan) (by rw[hcn];exact hwd) hl0
        rw[hcn] at hpk
        have hl1:(l.map (setO m plan)).length=l.length:=List.length_map ..
        have hrp:rndP m plan l=popL ltI (initL ltI (l.length / 2) (l.map (setO m plan)) l.length):=by unfold rndP;rw[hl1]
        have hin:=hInit_ok l.length (l.map (setO m plan)++t) (by rw[List.length_append];omega) (by rw[List.length_append];omega)
        rw[initL_app _ _ _ _ (by omega)] at hin
        have hl2:=(initL_perm (lt:=ltI) (l.length / 2) (l.map (setO m plan)) l.length (by omega)).length_eq
        generalize initL ltI (l.length / 2) (l.map (setO m plan)) l.length=l2 at *
        obtain ⟨k1,hk1⟩ :∃k1,l.length=k1+1:=⟨l.length - 1,by omega⟩
        have hpo:=hPop_ok k1 (k1+1) (l2++t) (by rw[List.length_append];omega) (by rw[List.length_append];omega) (by omega)
        rw[swapL_app (by omega) (by omega),downL_app _ _ _ _ _ (by rw[swapL_len];omega)] at hpo
        have hrl:=downL_len (lt:=ltI) (k1+1) (swapL l2 0 k1) 0 k1 (by rw[swapL_len];omega)
        rw[swapL_len] at hrl
        unfold popL at hrp
        rw[show l2.length=k1+1 by omega,Nat.add_sub_cancel] at hrp
        dsimp only at hrp
        generalize downL ltI (k1+1) (swapL l2 0 k1) 0 k1=r at *
        rw[show (r++t).getD k1 default=r.getD k1 default by rw[List.getD_eq_getElem?_getD,List.getElem?_append_left (by omega),← List.getD_eq_getElem?_getD]] at hpo
        rw[hk1,satP,hrp] at hr
        rw[hrp] at hpk
        obtain ⟨-,-,p3,p4,p5⟩:=hpk
        dsimp only at hr p3 p4 p5
        generalize hxx:r.getD k1 default=x at *
        rw[show eIt x=[.lit (.int .i64 x.cls),.lit (.int .i64 x.opt),.lit (.int .i64 x.near)] from rfl] at hpo
        have hpc:=place_ok m plan x.cls hm hpm (by omega)
        have hpm2:=plcM_pm hpm (c:=x.cls.toNat) (by omega)
        ((try revert hK K);(repeat' (first|refine Va X0 ?_|(refine V2 X0 ?_ ?_<;>try with_reducible intro hb)|(refine Xi ?_ ?_<;>try intro ht)|refine VD ?_ ?_|exact Xx|fail))<;>try with_reducible intro K hK)
        refine hel2 _ _ rfl ?_
        clear hnl2 hel2
        repeat (first|refine Xu ?_)
        ((try revert hK K);(repeat' (first|refine Va X0 ?_|(refine V2 X0 ?_ ?_<;>try with_reducible intro hb)|(refine Xi ?_ ?_<;>try intro ht)|refine VD ?_ ?_|exact Xx|fail))<;>try with_reducible intro K hK)
        (refine Xn [2,3] (hin) ?_;simp (disch:=omega) only[Ac,↓Pc,simprocAttr])
        ((try revert hK K);(repeat' (first|refine Va X0 ?_|(refine V2 X0 ?_ ?_<;>try with_reducible intro hb)|(refine Xi ?_ ?_<;>try intro ht)|refine VD ?_ ?_|exact Xx|fail))<;>try with_reducible intro K hK)
        rw[hk1]
        (refine Xn [2,3] (hpo) ?_;simp (disch:=omega) only[Ac,↓Pc,simprocAttr])
        ((try revert hK K);(repeat' (first|refine Va @eIt.eq_1 ?_|(refine V2 @eIt.eq_1 ?_ ?_<;>try with_reducible intro hb)|(refine Xi ?_ ?_<;>try intro ht)|refine VD ?_ ?_|exact Xx|fail))<;>try with_reducible intro K hK)
        (refine Xn [1] (hpc) ?_;simp (disch:=omega) only[Ac,↓Pc,simprocAttr])
        ((try revert hK K);(repeat' (first|refine Va X0 ?_|(refine V2 X0 ?_ ?_<;>try with_reducible intro hb)|(refine Xi ?_ ?_<;>try intro ht)|refine VD ?_ ?_|exact Xx|fail))<;>try with_reducible intro K hK)
        have happ2:r.take k1++(r.drop k1++t)=r++t:=by rw[← List.append_assoc,List.take_append_drop]
        have hrt:(r.take k1).length=k1:=by rw[List.length_take];omega
        refine hnl _ (plan.set x.cls.toNat (plcM m plan x.cls.toNat),r.take k1,r.drop k1++t) ⟨hpm2,?_,⟨_,p3⟩,?_⟩ ?_ ?_
        · dsimp only;rw[hrt,List.length_append,List.length_drop];omega
        · dsimp only;rw[hrt];exact hr
        · dsimp only;rw[hrt];omega
        · dsimp only
          rw[hrt,happ2,List.length_set]
          exact Xs false [0,1,2,3] X0
    · have hl1:l=[]:=List.eq_nil_of_length_eq_zero (by omega)
      subst hl1
      rw[List.length_nil,satP] at hr
      subst hr
      ((try revert hK K);(repeat' (first|refine Va X0 ?_|(refine V2 X0 ?_ ?_<;>try with_reducible intro hb)|(refine Xi ?_ ?_<;>try intro ht)|refine VD ?_ ?_|exact Xx|fail))<;>try with_reducible intro K hK)
      refine hel _ _ rfl ?_;clear hnl hel Ql
      repeat (first|refine Xu ?_)
      ((try revert hK K);(repeat' (first|refine Vb X0 ?_|(refine V2 X0 ?_ ?_<;>try with_reducible intro hb)|(refine Xi ?_ ?_<;>try intro ht)|refine VD ?_ ?_|exact Xx|fail))<;>try with_reducible intro K hK)
      exact Xw true [1] X0
def satT (m:Mdl):List Int × Int:=if validV m≠0 then ([],validV m) else (satV m,0)
def nbT (m:Mdl):List Int × Int:=if validV m≠0 then ([],validV m) else (nbV m,0)
theorem Saturate_ok (m:Mdl) (hb:MB m):Holds Tryz.prog 23 [.agg (eMdl m)] [] (.tup [.tree 1 (ints (satT m).1),.lit (.int .i64 (satT m).2)]) []:=by
  generalize hres:satT m=res
  unfold satT at hres
  refine Holds.of_body' (fn:=Tryz.f23) 12 0 [.tmp 2,.tmp 3] Tryz.func23 rfl rfl rfl rfl rfl (by simp) ?_
  ((try revert hK K);(repeat' (first|refine Vd X0 (valid_ok m hb) ?_|(refine V2 X0 ?_ ?_<;>try with_reducible intro hb)|(refine Xi ?_ ?_<;>try intro ht)|refine VD ?_ ?_|exact Xx|fail))<;>try with_reducible intro K hK)
  · rw[if_pos ht] at hres
    rw[← hres]
    exact RetOK_sel [] true (by decide) trivial (by decide) (by decide) (ArgR.tup2 ArgR.nil (.pure rfl))
  rw[if_neg (by omega)] at hres
  have hvm:=valid_iff.1 (by omega)
  have hs:=saturate_ok m hvm
  (refine Xn [] (hs) ?_;simp (disch:=omega) only[Ac,↓Pc,simprocAttr])
  ((try revert hK K);(repeat' (first|refine Vb X0 ?_|(refine V2 X0 ?_ ?_<;>try with_reducible intro hb)|(refine Xi ?_ ?_<;>try intro ht)|refine VD ?_ ?_|exact Xx|fail))<;>try with_reducible intro K hK)
  rw[← hres]
  exact RetOK_sel [] true (by decide) trivial (by decide) (by decide) (ArgR.tup2 (ArgR.frz (rows:=ints (satV m)) rfl (ints_wid _) (by rw[ints_length]) (not_kept (by simp)) (ints_frz _)) (.pure rfl))
theorem Neighbours_ok (m:Mdl) (hb:MB m):Holds Tryz.prog 15 [.agg (eMdl m)] [] (.tup [.tree 1 (ints (nbT m).1),.lit (.int .i64 (nbT m).2)]) []:=by
  generalize hres:nbT m=res
  unfold nbT at hres
  refine Holds.of_body' (fn:=Tryz.f15) 12 0 [.tmp 2,.tmp 3] Tryz.func15 rfl rfl rfl rfl rfl (by simp) ?_
  ((try revert hK K);(repeat' (first|refine Vd X0 (valid_ok m hb) ?_|(refine V2 X0 ?_ ?_<;>try with_reducible intro hb)|(refine Xi ?_ ?_<;>try intro ht)|refine VD ?_ ?_|exact Xx|fail))<;>try with_reducible intro K hK)
  · rw[if_pos ht] at hres
    rw[← hres]
    exact RetOK_sel [] true (by decide) trivial (by decide) (by decide) (ArgR.tup2 ArgR.nil (.pure rfl))
  rw[if_neg (by omega)] at hres
  have hvm:=valid_iff.1 (by omega)
  have hs:=neighbours_ok m hvm
  ((try revert hK K);(repeat' (first|refine Vd X0 hs ?_|(refine V2 X0 ?_ ?_<;>try with_reducible intro hb)|(refine Xi ?_ ?_<;>try intro ht)|refine VD ?_ ?_|exact Xx|fail))<;>try with_reducible intro K hK)
  rw[← hres]
  exact RetOK_pure rfl
theorem heaviest_ok (m:Mdl) (hm:VM m) (c:Ct) (nx:List Int) (cl:Int) (hc:ctB m c=true) (hnx:nx.length=m.cls.length) :
    Holds Tryz.prog 95 [.agg (eCt c),.tree 1 (ints nx),.lit (.int .i64 cl)] [] (.lit (.int .i64 (heavP nx cl c.loads (-1) 0))) []:=by
  obtain ⟨q1,q2,q3,q4⟩:=ctB_iff hc
  have hlen:=ldL_len0 hm q4
  generalize hres:heavP nx cl c.loads (-1) 0=res
  refine Holds.of_body' (fn:=Tryz.f95) 44 0 [.tmp 6] Tryz.func95 rfl rfl rfl rfl rfl (by simp) ?_
  ((try revert hK K);(repeat' (first|refine Vb X0 ?_|(refine V2 X0 ?_ ?_<;>try with_reducible intro hb)|(refine Xi ?_ ?_<;>try intro ht)|refine VD ?_ ?_|exact Xx|fail))<;>try with_reducible intro K hK)
  refine W_loopS (fun z:Nat × Int × Int=>(⟨slots [(1,.tree 1 (ints nx)),(2,.lit (.int .i64 cl)),(7,.lit (.int .i64 z.2.1)),(8,.lit (.int .i64 z.2.2)),(12,.tree 3 (rowsOf eLd c.loads)),(13,.lit (.int .i64 c.loads.length)),(14,.lit (.int .i64 z.1))],[]⟩:St))
    (fun z=>z.1≤c.loads.length∧heavP nx cl (c.loads.drop z.1) z.2.1 z.2.2=res) (fun z=>c.loads.length - z.1) (0,-1,0) ⟨Nat.zero_le _,hres⟩ (Xs false [] X0) ?_
  rintro ⟨k,b,w⟩ ⟨hk,hr⟩ Ql hnl hel
  dsimp only at hk hr ⊢
  by_cases hk':k<c.loads.length
  · have hlm:=ldL_mem q4 _ (getD_mem (d:=default) hk')
    rw[getD_drop0 c.loads k default hk',heavP] at hr
    generalize hxx:c.loads.getD k default=x at *
    obtain ⟨b1,b2,b3,b4⟩:=optB_iff.1 hlm.1
    generalize hpx:nx.getD x.cls.toNat 0=px at *
    ((try revert hK K);(repeat' (first|refine Va (X2 @hxx @hpx) ?_|(refine V2 (X2 @hxx @hpx) ?_ ?_<;>try with_reducible intro hb)|(refine Xi ?_ ?_<;>try intro ht)|refine VD ?_ ?_|exact Xx|fail))<;>try with_reducible intro K hK)
    all_goals try (exfalso;omega)
    all_goals first
      | (rw[if_pos (by omega)] at hr;exact hnl _ (k+1,x.cls,x.wt) ⟨by dsimp only;omega,hr⟩ (by dsimp only;omega) (Xs false [] X0))
      | (rw[if_neg (by omega)] at hr;exact hnl _ (k+1,b,w) ⟨by dsimp only;omega,hr⟩ (by dsimp only;omega) (Xs false [] X0))
  · rw[List.drop_eq_nil_of_le (by omega),heavP] at hr
    ((try revert hK K);(repeat' (first|refine Va X0 ?_|(refine V2 X0 ?_ ?_<;>try with_reducible intro hb)|(refine Xi ?_ ?_<;>try intro ht)|refine VD ?_ ?_|exact Xx|fail))<;>try with_reducible intro K hK)
    refine hel _ _ rfl ?_;clear hnl hel Ql
    repeat (first|refine Xu ?_)
    ((try revert hK K);(repeat' (first|refine Vb X0 ?_|(refine V2 X0 ?_ ?_<;>try with_reducible intro hb)|(refine Xi ?_ ?_<;>try intro ht)|refine VD ?_ ?_|exact Xx|fail))<;>try with_reducible intro K hK)
    exact RetOK_pure' rfl (by rw[hr])
def ejR:Option (List Int × List Int)→AV
  | none=>.tup [.lit (.slice none 0 0),.lit (.slice none 0 0),.lit (.bool false)]
  | some r=>.tup [.ref 0 1 0 r.1.length,.tree 1 (ints r.2),.lit (.bool true)]
def ejOb:Option (List Int × List Int)→List Ob
  | none=>[]
  | some r=>[.arr 1 (ints r.1)]
theorem eject_ok (m:Mdl) (hm:VM m) (plan:List Int) (hp:PM m plan) (cl o:Int) (ho:optB m cl o=true) :
    Holds Tryz.prog 61 [.agg (eMdl m),.tree 1 (ints plan),.lit (.int .i64 cl),.lit (.int .i64 o)] [] (ejR (ejV m plan cl o)) (ejOb (ejV m plan cl o)):=by
  obtain ⟨b1,b2,b3,b4⟩:=optB_iff.1 ho
  have hm1:=hm.cls
  have hm2:=hm.prs
  have hm3:=hm.cts
  have hpl:=hp.len
  have hla:=getD_mem (l:=m.cls) (i:=cl.toNat) (d:=default) (by omega)
  have hla24:=hm.opt _ hla
  generalize hres:ejV m plan cl o=res
  unfold ejV at hres
  have hej:=ej_eq hm (cl:=cl) (o:=o) ⟨b1,b2⟩ (nx:=plan.set cl.toNat o) (by rw[List.length_set];exact hpl) (by rw[getD_set' _ _ _ _ _ (by omega),if_pos rfl])
  rw[← hej] at hres
  have hchs:=hm.mb.ch _ hla
  generalize hlc:m.cls.getD cl.toNat default=lc at *
  have hfr:=wFree_ok (lc.getD o.toNat default) (hchs _ (getD_mem (by omega)))
  generalize hoo:lc.getD o.toNat default=op at *
  generalize freeB op=fb at *
  cases fb
  · rw[if_neg (by decide)] at hres
    subst hres
    unfold ejR ejOb
    refine Holds.of_body' (fn:=Tryz.f61) 132 0 [.tmp 8,.tmp 9,.tmp 10] Tryz.func61 rfl rfl rfl rfl rfl (by simp) ?_
    ((try revert hK K);(repeat' (first|refine Vd (X2 @hlc @hoo) hfr ?_|(refine V2 (X2 @hlc @hoo) ?_ ?_<;>try with_reducible intro hb)|(refine Xi ?_ ?_<;>try intro ht)|refine VD ?_ ?_|exact Xx|fail))<;>try with_reducible intro K hK)
    exact RetOK_pure' rfl rfl
  rw[if_pos rfl] at hres
  have hclone:=clone_ok plan (by omega) (by omega)
  generalize hn1:ejPrs m cl m.prs (plan.set cl.toNat o)=n1 at hres
  have hpm0:PM m (plan.set cl.toNat o):=pm_set hp (.inr (by rw[Int.toNat_of_nonneg b1];exact ho))
  have hg0:(plan.set cl.toNat o).getD cl.toNat 0=o:=by rw[getD_set' _ _ _ _ _ (by omega),if_pos rfl]
  refine Holds.of_body' (fn:=Tryz.f61) 132 0 [.tmp 8,.tmp 9,.tmp 10] Tryz.func61 rfl rfl rfl rfl rfl (by simp) ?_
  ((try revert hK K);(repeat' (first|refine Vd (X2 @hlc @hoo) hfr ?_|(refine V2 (X2 @hlc @hoo) ?_ ?_<;>try with_reducible intro hb)|(refine Xi ?_ ?_<;>try intro ht)|refine VD ?_ ?_|exact Xx|fail))<;>try with_reducible intro K hK)
  (refine Xn [] (hclone) ?_;simp (disch:=omega) only[Ac,↓Pc,simprocAttr])
  ((try revert hK K);(repeat' (first|refine Vb @ints_set ?_|(refine V2 @ints_set ?_ ?_<;>try with_reducible intro hb)|(refine Xi ?_ ?_<;>try intro ht)|refine VD ?_ ?_|exact Xx|fail))<;>try with_reducible intro K hK)
  refine W_loopS (fun z:Nat × List Int=>(⟨slots [(1,.tree 1 (ints plan)),(2,.lit (.int .i64 cl)),(4,.ptr 0 0 0),(8,.ref 1 1 0 plan.length),(9,.lit (.slice none 0 0)),(36,.tree 4 (rowsOf ePr m.prs)),(37,.lit (.int .i64 m.prs.length)),(38,.lit (.int .i64 z.1))],[.var (eMdl m),.arr 1 (ints z.2)]⟩:St))
    (fun z=>z.1≤m.prs.length∧PM m z.2∧z.2.getD cl.toNat 0=o∧ejPrs m cl (m.prs.drop z.1) z.2=n1) (fun z=>m.prs.length - z.1) (0,plan.set cl.toNat o) ⟨Nat.zero_le _,hpm0,hg0,hn1⟩ (Xv X0) ?_
  clear hpm0 hg0 hn1 hej hclone hfr
  rintro ⟨k,nx⟩ ⟨hk,hpm,hg,hr⟩ Ql hnl hel
  dsimp only at hk hpm hg hr ⊢
  have hnx:=hpm.len
  by_cases hk':k<m.prs.length
  · have hpb:=prsL_mem hm.pr _ (getD_mem (d:=default) hk')
    rw[getD_drop0 m.prs k default hk',ejPrs] at hr
    generalize hpp:m.prs.getD k default=p at *
    obtain ⟨q1,q2,q3,q4,q5⟩:=pairB_iff hpb
    by_cases hA:p.fst≠cl∧p.snd≠cl
    · rw[if_pos (.inl hA)] at hr
      ((try revert hK K);(repeat' (first|refine Va (X2 @hpp @ePr.eq_1) ?_|(refine V2 (X2 @hpp @ePr.eq_1) ?_ ?_<;>try with_reducible intro hb)|(refine Xi ?_ ?_<;>try intro ht)|refine VD ?_ ?_|exact Xx|fail))<;>try with_reducible intro K hK)
      all_goals try (exfalso;omega)
      all_goals exact hnl _ (k+1,nx) ⟨by dsimp only;omega,hpm,hg,hr⟩ (by dsimp only;omega) (Xs false [0,1] X0)
    · obtain ⟨ot,hot⟩ :∃ot,p.fst+p.snd - cl=ot:=⟨_,rfl⟩
      rw[hot] at hr
      have hz1:∀ i,i≠ot.toNat→(nx.set ot.toNat (-1)).getD i 0=nx.getD i 0:=fun i hi=>by rw[getD_set' _ _ _ _ _ (by omega),if_neg (Ne.symm hi)]
      have hz2:=hz1 cl.toNat (by omega)
      have hpm2:PM m (nx.set ot.toNat (-1)):=pm_set hpm (.inl rfl)
      have g1:=hpm.get p.fst.toNat (by omega)
      have g2:=hpm.get p.snd.toNat (by omega)
      rw[Int.toNat_of_nonneg (by omega)] at g1 g2
      have hcall:=prEntry_ok m p (nx.getD p.fst.toNat 0) (nx.getD p.snd.toNat 0) hpb hm.opt
      have hozo:ot=p.fst∧p.snd=cl∨ot=p.snd∧p.fst=cl:=by omega
      by_cases hz:nx.getD ot.toNat 0<0
      · rw[if_pos (.inr hz)] at hr
        ((try revert hK K);(repeat' (first|refine Va (X3 @hpp @ePr.eq_1 @hot) ?_|(refine V2 (X3 @hpp @ePr.eq_1 @hot) ?_ ?_<;>try with_reducible intro hb)|(refine Xi ?_ ?_<;>try intro ht)|refine VD ?_ ?_|exact Xx|fail))<;>try with_reducible intro K hK)
        all_goals try (exfalso;omega)
        all_goals exact hnl _ (k+1,nx) ⟨by dsimp only;omega,hpm,hg,hr⟩ (by dsimp only;omega) (Xs false [0,1] X0)
      · rw[if_neg (fun h=>h.elim hA hz)] at hr
        have hboth:0≤nx.getD p.fst.toNat 0∧0≤nx.getD p.snd.toNat 0:=by
          rcases hozo with ⟨h1,h2⟩ | ⟨h1,h2⟩
          · rw[h1] at hz;rw[h2,hg];omega
          · rw[h1] at hz;rw[h2,hg];omega
        have a1:=(optB_iff.1 (g1.resolve_left (by omega)))
        have a2:=(optB_iff.1 (g2.resolve_left (by omega)))
        have hcall:=hcall ⟨a1.2.2.1,a1.2.2.2⟩ ⟨a2.2.2.1,a2.2.2.2⟩
        generalize entryV m p (nx.getD p.fst.toNat 0) (nx.getD p.snd.toNat 0)=e at *
        by_cases hef:e=1099511627776
        · rw[if_pos hef] at hr
          ((try revert hK K);(repeat' (first|refine Vc (X4 @hpp @ePr.eq_1 @hot @ints_set) hcall ?_|(refine V2 (X4 @hpp @ePr.eq_1 @hot @ints_set) ?_ ?_<;>try with_reducible intro hb)|(refine Xi ?_ ?_<;>try intro ht)|refine VD ?_ ?_|exact Xx|fail))<;>try with_reducible intro K hK)
          all_goals try (exfalso;omega)
          all_goals exact hnl _ (k+1,nx.set ot.toNat (-1)) ⟨by dsimp only;omega,hpm2,hz2.trans hg,hr⟩ (by dsimp only;omega) (Xs false [0,1] X0)
        · rw[if_neg hef] at hr
          ((try revert hK K);(repeat' (first|refine Vc (X4 @hpp @ePr.eq_1 @hot @ints_set) hcall ?_|(refine V2 (X4 @hpp @ePr.eq_1 @hot @ints_set) ?_ ?_<;>try with_reducible intro hb)|(refine Xi ?_ ?_<;>try intro ht)|refine VD ?_ ?_|exact Xx|fail))<;>try with_reducible intro K hK)
          all_goals try (exfalso;omega)
          all_goals exact hnl _ (k+1,nx) ⟨by dsimp only;omega,hpm,hg,hr⟩ (by dsimp only;omega) (Xs false [0,1] X0)
  · rw[List.drop_eq_nil_of_le (by omega),ejPrs] at hr
    subst hr
    ((try revert hK K);(repeat' (first|refine Va X0 ?_|(refine V2 X0 ?_ ?_<;>try with_reducible intro hb)|(refine Xi ?_ ?_<;>try intro ht)|refine VD ?_ ?_|exact Xx|fail))<;>try with_reducible intro K hK)
    refine hel _ _ rfl ?_;clear hnl hel Ql
    repeat (first|refine Xu ?_)
    clear hk hk' hg
    ((try revert hK K);(repeat' (first|refine Vb X0 ?_|(refine V2 X0 ?_ ?_<;>try with_reducible intro hb)|(refine Xi ?_ ?_<;>try intro ht)|refine VD ?_ ?_|exact Xx|fail))<;>try with_reducible intro K hK)
    refine W_loopS (fun z:Nat × List Int=>(⟨slots [(1,.tree 1 (ints plan)),(2,.lit (.int .i64 cl)),(8,.ref 1 1 0 plan.length),(9,.lit (.slice none 0 0)),(85,.tree 4 (rowsOf eCt m.cts)),(86,.lit (.int .i64 m.cts.length)),(87,.lit (.int .i64 z.1))],[.var (eMdl m),.arr 1 (ints z.2)]⟩:St))
      (fun z=>z.1≤m.cts.length∧PM m z.2∧((ejCts m.cls.length cl (m.cts.drop z.1) z.2).map fun nx=>(nx,goneL 0 plan nx))=res) (fun z=>m.cts.length - z.1) (0,nx) ⟨Nat.zero_le _,hpm,hres⟩ (Xv X0) ?_
    clear hres hpm hnx
    rintro ⟨k,nx⟩ ⟨hk,hpm,hr⟩ Ql hnl hel
    dsimp only at hk hpm hr ⊢
    have hnx:=hpm.len
    by_cases hk':k<m.cts.length
    · have hcb:=hm.ct _ (getD_mem (d:=default) hk')
      rw[getD_drop0 m.cts k default hk',ejCts] at hr
      generalize hcc:m.cts.getD k default=c at *
      have hhd:=wHard_ok c
      ((try revert hK K);(repeat' (first|refine Va @hcc ?_|(refine V2 @hcc ?_ ?_<;>try with_reducible intro hb)|(refine Xi ?_ ?_<;>try intro ht)|refine VD ?_ ?_|exact Xx|fail))<;>try with_reducible intro K hK)
      refine W_loopS (fun nx:List Int=>(⟨slots [(1,.tree 1 (ints plan)),(2,.lit (.int .i64 cl)),(8,.ref 1 1 0 plan.length),(9,.lit (.slice none 0 0)),(15,.ptr 2 0 0),(85,.tree 4 (rowsOf eCt m.cts)),(86,.lit (.int .i64 m.cts.length)),(87,.lit (.int .i64 k))],[.var (eMdl m),.arr 1 (ints nx),.var (eCt c)]⟩:St))
        (fun nx=>PM m nx∧(((ejOne m.cls.length c cl (nnL nx+1) nx).bind (ejCts m.cls.length cl (m.cts.drop (k+1)))).map fun nx=>(nx,goneL 0 plan nx))=res) (fun nx=>nnL nx) nx ⟨hpm,hr⟩ (Xv X0) ?_
      clear hr hpm hnx
      rintro nx ⟨hpm,hr⟩ Ql2 hnl2 hel2
      have hnx:=hpm.len
      have hnp:nx.length=plan.length:=by omega
      have hexc:=prExc_ok m nx c hm hnx hcb
      have hhv:=heaviest_ok m hm c nx cl hcb hnx
      rw[heav_eq hnx hcb] at hhv
      have hnn:=heav_nn hcb (nx:=nx) (cl:=cl)
      rw[ejOne_step hcb hnx] at hr
      generalize heavR c.loads nx cl m.cls.length 0 (-1)=h at *
      by_cases hgo:hardB c=true∧0<excN nx c
      · rw[if_pos hgo] at hr
        rw[hgo.1] at hhd
        generalize excN nx c=ev0 at *
        by_cases hneg:h<0
        · rw[if_pos hneg] at hr
          subst hr
          ((try revert hK K);(repeat' (first|refine Vc X0 hhd ?_|(refine V2 X0 ?_ ?_<;>try with_reducible intro hb)|(refine Xi ?_ ?_<;>try intro ht)|refine VD ?_ ?_|exact Xx|fail))<;>try with_reducible intro K hK)
          refine callK_snap [] hexc (by decide) trivial ⟨.pure rfl,ArgR.frz (rows:=ints nx) rfl (ints_wid _) (by simp only[Bc,Rc,hnp]) (by decide) (ints_frz _),trivial⟩ rfl (by simp) ?_
          ((try revert hK K);(repeat' (first|refine Va X0 ?_|(refine V2 X0 ?_ ?_<;>try with_reducible intro hb)|(refine Xi ?_ ?_<;>try intro ht)|refine VD ?_ ?_|exact Xx|fail))<;>try with_reducible intro K hK)
          all_goals try (exfalso;omega)
          refine callK_snap [] hhv (by decide) trivial ⟨.pure rfl,ArgR.frz (rows:=ints nx) rfl (ints_wid _) (by simp only[Bc,Rc,hnp]) (by decide) (ints_frz _),.pure rfl,trivial⟩ rfl (by simp) ?_
          ((try revert hK K);(repeat' (first|refine Va X0 ?_|(refine V2 X0 ?_ ?_<;>try with_reducible intro hb)|(refine Xi ?_ ?_<;>try intro ht)|refine VD ?_ ?_|exact Xx|fail))<;>try with_reducible intro K hK)
          all_goals try (exfalso;omega)
          repeat (first|refine Xu ?_|(refine hel2 _ _ rfl ?_;clear hnl2 hel2;try clear Ql2)|(refine hel3 _ _ rfl ?_;clear hnl3 hel3;try clear Ql3)|(refine hel4 _ _ rfl ?_;clear hnl4 hel4;try clear Ql4))
          ((try revert hK K);(repeat' (first|refine Vb X0 ?_|(refine V2 X0 ?_ ?_<;>try with_reducible intro hb)|(refine Xi ?_ ?_<;>try intro ht)|refine VD ?_ ?_|exact Xx|fail))<;>try with_reducible intro K hK)
          exact RetOK_pure' rfl rfl
        · rw[if_neg hneg] at hr
          obtain ⟨c1,c2,c3,c4⟩:=hnn hneg
          have hdec:=nnL_set nx h.toNat (by omega) c4
          have hpm2:PM m (nx.set h.toNat (-1)):=pm_set hpm (.inl rfl)
          ((try revert hK K);(repeat' (first|refine Vc X0 hhd ?_|(refine V2 X0 ?_ ?_<;>try with_reducible intro hb)|(refine Xi ?_ ?_<;>try intro ht)|refine VD ?_ ?_|exact Xx|fail))<;>try with_reducible intro K hK)
          refine callK_snap [] hexc (by decide) trivial ⟨.pure rfl,ArgR.frz (rows:=ints nx) rfl (ints_wid _) (by simp only[Bc,Rc,hnp]) (by decide) (ints_frz _),trivial⟩ rfl (by simp) ?_
          ((try revert hK K);(repeat' (first|refine Va X0 ?_|(refine V2 X0 ?_ ?_<;>try with_reducible intro hb)|(refine Xi ?_ ?_<;>try intro ht)|refine VD ?_ ?_|exact Xx|fail))<;>try with_reducible intro K hK)
          all_goals try (exfalso;omega)
          refine callK_snap [] hhv (by decide) trivial ⟨.pure rfl,ArgR.frz (rows:=ints nx) rfl (ints_wid _) (by simp only[Bc,Rc,hnp]) (by decide) (ints_frz _),.pure rfl,trivial⟩ rfl (by simp) ?_
          ((try revert hK K);(repeat' (first|refine Va @ints_set ?_|(refine V2 @ints_set ?_ ?_<;>try with_reducible intro hb)|(refine Xi ?_ ?_<;>try intro ht)|refine VD ?_ ?_|exact Xx|fail))<;>try with_reducible intro K hK)
          all_goals try (exfalso;omega)
          exact hnl2 _ (nx.set h.toNat (-1)) ⟨hpm2,hr⟩ (by omega) (Xv X0)
      · rw[if_neg hgo] at hr
        ((try revert hK K);(repeat' (first|refine Vc X0 hhd ?_|(refine V2 X0 ?_ ?_<;>try with_reducible intro hb)|(refine Xi ?_ ?_<;>try intro ht)|refine VD ?_ ?_|exact Xx|fail))<;>try with_reducible intro K hK)
        · have hh:hardB c=true:=by assumption
          refine callK_snap [] hexc (by decide) trivial ⟨.pure rfl,ArgR.frz (rows:=ints nx) rfl (ints_wid _) (by simp only[Bc,Rc,hnp]) (by decide) (ints_frz _),trivial⟩ rfl (by simp) ?_
          ((try revert hK K);(repeat' (first|refine Va X0 ?_|(refine V2 X0 ?_ ?_<;>try with_reducible intro hb)|(refine Xi ?_ ?_<;>try intro ht)|refine VD ?_ ?_|exact Xx|fail))<;>try with_reducible intro K hK)
          all_goals try (exfalso;exact hgo ⟨by assumption,by assumption⟩)
          refine hel2 _ _ rfl ?_
          clear hnl2 hel2
          repeat (first|refine Xu ?_)
          ((try revert hK K);(repeat' (first|refine Va X0 ?_|(refine V2 X0 ?_ ?_<;>try with_reducible intro hb)|(refine Xi ?_ ?_<;>try intro ht)|refine VD ?_ ?_|exact Xx|fail))<;>try with_reducible intro K hK)
          exact hnl _ (k+1,nx) ⟨by dsimp only;omega,hpm,hr⟩ (by dsimp only;omega) (Xs false [0,1] X0)
        · refine hel2 _ _ rfl ?_
          clear hnl2 hel2
          repeat (first|refine Xu ?_)
          ((try revert hK K);(repeat' (first|refine Va X0 ?_|(refine V2 X0 ?_ ?_<;>try with_reducible intro hb)|(refine Xi ?_ ?_<;>try intro ht)|refine VD ?_ ?_|exact Xx|fail))<;>try with_reducible intro K hK)
          exact hnl _ (k+1,nx) ⟨by dsimp only;omega,hpm,hr⟩ (by dsimp only;omega) (Xs false [0,1] X0)
    · rw[List.drop_eq_nil_of_le (by omega),ejCts] at hr
      rw[Option.map_some] at hr
      generalize hgn:goneL 0 plan nx=gn at hr
      subst hr
      ((try revert hK K);(repeat' (first|refine Va X0 ?_|(refine V2 X0 ?_ ?_<;>try with_reducible intro hb)|(refine Xi ?_ ?_<;>try intro ht)|refine VD ?_ ?_|exact Xx|fail))<;>try with_reducible intro K hK)
      refine hel _ _ rfl ?_;clear hnl hel Ql
      repeat (first|refine Xu ?_)
      clear hk hk'
      ((try revert hK K);(repeat' (first|refine Vb X0 ?_|(refine V2 X0 ?_ ?_<;>try with_reducible intro hb)|(refine Xi ?_ ?_<;>try intro ht)|refine VD ?_ ?_|exact Xx|fail))<;>try with_reducible intro K hK)
      refine W_loopS (fun z:Nat × List Int=>(⟨slots [(8,.ref 1 1 0 plan.length),(9,.ref 2 1 0 z.2.length),(109,.tree 1 (ints plan)),(110,.lit (.int .i64 plan.length)),(111,.lit (.int .i64 z.1))],[.var (eMdl m),.arr 1 (ints nx),.arr 1 (ints z.2)]⟩:St))
        (fun z=>z.1≤plan.length∧z.2.length≤z.1∧z.2++goneL z.1 (plan.drop z.1) nx=gn) (fun z=>plan.length - z.1) (0,[]) ⟨Nat.zero_le _,Nat.le_refl _,hgn⟩ ?_ ?_
      · refine Turns.trans (Turns.nil 9 1 (by simp only[Kc,simprocAttr]) (by decide)) ?_
        exact Xv X0
      clear hgn
      rintro ⟨i,out⟩ ⟨hi,hol,hr⟩ Ql hnl hel
      dsimp only at hi hol hr ⊢
      by_cases hi':i<plan.length
      · rw[getD_drop0 plan i 0 hi',goneL] at hr
        generalize hx:plan.getD i 0=x at *
        generalize hy:nx.getD i 0=y at *
        by_cases hxy:0≤x∧y<0
        · rw[if_pos hxy] at hr
          ((try revert hK K);(repeat' (first|refine Va (X3 @hx @hy @ints_app1) ?_|(refine V2 (X3 @hx @hy @ints_app1) ?_ ?_<;>try with_reducible intro hb)|(refine Xi ?_ ?_<;>try intro ht)|refine VD ?_ ?_|exact Xx|fail))<;>try with_reducible intro K hK)
          all_goals try (exfalso;omega)
          exact hnl _ (i+1,out++[(i:Int)]) ⟨by dsimp only;omega,by simp;omega,by dsimp only;rw[List.append_assoc];exact hr⟩ (by dsimp only;omega) (Xs false [0,1,4] X0)
        · rw[if_neg hxy] at hr
          ((try revert hK K);(repeat' (first|refine Va (X2 @hx @hy) ?_|(refine V2 (X2 @hx @hy) ?_ ?_<;>try with_reducible intro hb)|(refine Xi ?_ ?_<;>try intro ht)|refine VD ?_ ?_|exact Xx|fail))<;>try with_reducible intro K hK)
          all_goals try (exfalso;omega)
          all_goals exact hnl _ (i+1,out) ⟨by dsimp only;omega,by dsimp only;omega,hr⟩ (by dsimp only;omega) (Xv X0)
      · rw[List.drop_eq_nil_of_le (by omega),goneL,List.append_nil] at hr
        subst hr
        ((try revert hK K);(repeat' (first|refine Va X0 ?_|(refine V2 X0 ?_ ?_<;>try with_reducible intro hb)|(refine Xi ?_ ?_<;>try intro ht)|refine VD ?_ ?_|exact Xx|fail))<;>try with_reducible intro K hK)
        refine hel _ _ rfl ?_;clear hnl hel Ql
        repeat (first|refine Xu ?_)
        ((try revert hK K);(repeat' (first|refine Vb X0 ?_|(refine V2 X0 ?_ ?_<;>try with_reducible intro hb)|(refine Xi ?_ ?_<;>try intro ht)|refine VD ?_ ?_|exact Xx|fail))<;>try with_reducible intro K hK)
        unfold ejR ejOb
        dsimp only
        rw[hnx,← hpl]
        exact Xw true [1] X0 (h2:=tup3 (.eq rfl) (ArgR.frz (rows:=ints out) rfl (ints_wid _) (by rw[ints_length]) (not_kept (by decide)) (ints_frz _)) (.pure rfl))
end T

