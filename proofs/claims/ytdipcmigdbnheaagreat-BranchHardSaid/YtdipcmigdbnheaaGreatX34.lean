import Derived.Test.YtdipcmigdbnheaaGreatX33
import Derived.Test.YtdipcmigdbnheaaGreatX32
set_option linter.unusedVariables false
set_option linter.unusedSimpArgs false
set_option linter.unnecessarySimpa false
set_option linter.unusedSectionVars false
set_option maxHeartbeats 64000000
set_option maxRecDepth 20000
open List renaming replicate→bq,map_take→AA,take→lR,drop→ly,map_append→fB
open Nat renaming min_eq_left→pz
open Go Go.Am Go.Proofs
open Nat (reduceEqDiff reduceAdd reduceLeDiff reduceMul)
open Int (reduceNeg reduceLE reduceToNat)
namespace T
theorem LG.mono {m:ah} {B C:Int} {g:Lg} (h:LG m B g) (hc:B≤C):LG m C g:=⟨h.s,h.t,h.sl,h.tl,fun r hr=>(h.sb r hr).mono hc,fun r hr=>(h.tb r hr).mono hc⟩
def kJ (b:Bool):List AV:=[.lit (.bool b)]
instance:Row kJ 1:=⟨fun _=>rfl,fun b v hv=>by
  simp only[kJ,List.mem_singleton] at hv;subst hv;exact .inl ⟨_,rfl,rfl⟩⟩
theorem Oe (xs:List Bool):rowsOf kJ xs=bg xs:=by simp[rowsOf,kJ,bg]
def pZ (n i:Nat) (s:Bool):List Bool:=bq i s++bq (n - i) false
theorem ad8 {n i j:Nat} {s:Bool} (h:j≤i):(rowsOf kJ (pZ n i s)).take j=rowsOf kJ (bq j s):=by
  unfold pZ rowsOf
  rw[← AA,List.take_append_of_le_length (by simp;omega),List.take_replicate,pz h]
theorem ad9 {n i j:Nat} {s:Bool} (h:i+j≤n) (hj:j≤i):rowsOf kJ (bq i s)++lR j (rowsOf kJ (bq i s))++ly (i+j) (rowsOf kJ (pZ n i s))=rowsOf kJ (pZ n (i+j) s):=by
  unfold pZ rowsOf
  rw[← AA,← List.map_drop,← fB,← fB,List.take_replicate,pz hj,List.drop_append,List.drop_eq_nil_of_le (by simp),List.drop_replicate,List.nil_append,List.replicate_append_replicate]
  congr 3
  simp;omega
theorem aea {n i:Nat} {s:Bool} (h:i≤n):(pZ n i s).length=n:=by simp[pZ];omega
theorem Od (s:Bool) (n:Nat) (hn:n≤1048576):ao Tryz.prog 156 [.tree 1 [kJ s],.lit (.int .i64 (n:Nat))] [] (.ref 0 1 0 n) [.arr 1 (rowsOf kJ (bq n s))]:=by
  have hm:=aeb n (by omega)
  refine ao.aF (fn:=Tryz.f156) 48 0 [.tmp 4] Tryz.func156 rfl rfl rfl rfl rfl (by simp) ?_
  ((repeat' (first|refine Vc (X5 @FG @FH @unI @unU (X4 @aee @aef @Option.isSome_some.{0} @Nx)) hm ?_|(refine Xi ?_ ?_<;>try intro ht)|exact Xx|fail)))
  have e0:lR (min 1 n) [kJ s]++ly (min 1 n) (bq n [AV.lit (Value.bool false)])=rowsOf kJ (pZ n (min 1 n) s):=by
    unfold pZ rowsOf
    rw[List.drop_replicate]
    rcases Nat.eq_zero_or_pos n with h | h
    · subst h;rfl
    · rw[pz h,fB,List.map_replicate,List.map_replicate];rfl
  have e0':lR (min 1 n) [kJ s]++ly (min 1 n) (bg (bq n false))=rowsOf kJ (pZ n (min 1 n) s):=by
    rw[← e0];simp[bg]
  first|rw[e0]|rw[e0']
  refine aI (fun i:Nat=>(⟨av [(7,.ref 0 1 0 n),(8,.lit (.int .i64 i))],[.arr 1 (rowsOf kJ (pZ n i s))]⟩:St)) (fun i=>i≤n∧(i=0→n=0)) (fun i=>n - i) (min 1 n) ⟨by omega,by omega⟩ (Xv X0) ?_
  rintro i ⟨hi,hr⟩ Ql ak aq
  by_cases hi':i<n
  · have e1:i+min i (n - i)≤n:=by omega
    have hl:=aea (s:=s) hi
    have pg:=fun n s=>ad8 (n:=n) (s:=s) (Nat.le_refl i)
    ((repeat' (first|refine Va (X5 @Option.map_none.{0,0} @List.drop_zero.{0} @pg @b5 (X3 @List.length_replicate.{0} @Bh @hl)) ?_|(refine Xi ?_ ?_<;>try intro ht)|exact Xx|fail)))
    rw[ad9 e1 (Nat.min_le_left _ _)]
    exact ak _ (i+min i (n - i)) ⟨by omega,by omega⟩ (by omega) (Xv X0)
  · obtain rfl:i=n:=by omega
    ((repeat' (first|refine Va X0 ?_|(refine Xi ?_ ?_<;>try intro ht)|exact Xx|fail)))
    refine aq _ _ rfl ?_;clear ak aq Ql
    repeat (refine Xu ?_)
    refine Vb X0 ?_
    have e2:pZ i i s=bq i s:=by simp[pZ]
    rw[e2]
    exact Xw false [0] X0
def kI (m:ah):List (List Bool):=m.cls.map fun l=>bq l.length true
def ef (m:ah):List (List Bool):=if dI m=0 then kI m else []
theorem Of (xs:List (List Bool)) (b:List Bool):rowsOf aE xs++[[AV.tree 1 (bg b)]]=rowsOf aE (xs++[b]):=by simp[rowsOf,aE]
theorem adS (m:ah) (hm:MB m):ao Tryz.prog 102 [.agg (ar m)] [] (.tree 1 (rowsOf aE (ef m))) []:=by
  have h1:=vI m hm
  have qF:=hm.cls
  generalize an:ef m=res
  unfold ef at an
  refine ao.aF (fn:=Tryz.f102) 25 0 [.tmp 2] Tryz.func102 rfl rfl rfl rfl rfl (by simp) ?_
  by_cases hv:dI m=0
  rotate_left
  · rw[if_neg hv] at an
    rw[← an]
    generalize dI m=e at *
    ((repeat' (first|refine Vd X0 h1 ?_|(refine Xi ?_ ?_<;>try intro ht)|exact Xx|fail)))
    exact eA [] true (by decide) trivial (by decide) (by decide) aN.nil
  rw[if_pos hv] at an
  rw[hv] at h1
  have b9:=iJ.1 hv
  have mc:=b9.cls
  ((repeat' (first|refine Vd @bne_self_eq_false.{0} h1 ?_|(refine Xi ?_ ?_<;>try intro ht)|exact Xx|fail)))
  refine aI (fun z:Nat × List (List Bool)=>(⟨av [(1,.ptr 0 0 0),(3,.ref 1 1 0 z.2.length),(10,.tree 1 (rowsOf bn m.cls)),(11,.lit (.int .i64 m.cls.length)),(12,.lit (.int .i64 z.1))],[.var (ar m),.arr 1 (rowsOf aE z.2)]⟩:St))
    (fun z=>z.1≤m.cls.length∧z.2=(kI m).take z.1) (fun z=>m.cls.length - z.1) (0,[]) ⟨Nat.zero_le _,rfl⟩ ?_ ?_
  · refine aA.trans (aA.nil 3 1 (by simp only[Kc,simprocAttr]) (by decide)) ?_
    exact Xv X0
  rintro ⟨i,xs⟩ ⟨hi,cF⟩ Ql ak aq
  dsimp only at hi cF ⊢
  have ik:(kI m).length=m.cls.length:=by simp[kI]
  by_cases hi':i<m.cls.length
  · have uy:xs.length=i:=by rw[cF,List.length_take];omega
    have cS:(kI m).take (i+1)=xs++[bq (m.cls.getD i default).length true]:=by
      rw[eu (by omega),← cF];unfold kI;rw[iu _ _ _ hi']
    have qG:=b9.opt _ (az (d:=default) hi')
    generalize aO:m.cls.getD i default=c at *
    have By:=Od true c.length (by omega)
    repeat' (first|((fail_if_success (first|refine im 7 ?_|refine iq 7 ?_));refine Xr (X2 @aO @bn.eq_1) ?_;intro K hK)|(refine hK _ ?_;clear hK K)|(refine Xi ?_ ?_<;>try intro ht)|refine Xy ?_|refine Xd ?_ ?_|exact Xx|fail)
    refine HR 5 (by decide) ?_
    intro K K1 hK vM
    simp (disch:=omega) only[Ac,↓Pc,simprocAttr,lR]
    refine nR [] By (by decide) trivial ⟨aN.fz (rows:=rowsOf kJ [true]) rfl rfl (by simp),.pure rfl,trivial⟩ rfl (by simp[tY,kJ,rowsOf,flat]) ?_
    simp (disch:=omega) only[Ac,↓Pc,simprocAttr]
    refine vM _ ⟨av [(1,.ptr 0 0 0),(3,.ref 1 1 0 xs.length),(10,.tree 1 (rowsOf bn m.cls)),(11,.lit (.int .i64 m.cls.length)),(12,.lit (.int .i64 i)),(16,.ref 1 1 0 xs.length),(20,.tree 1 (bg (bq c.length true)))],[.var (ar m),.arr 1 (rowsOf aE xs)]⟩ ?_ ?_
    · rw[← Oe]
      exact Xs true [0,1] X0
    clear vM K1
    simp (disch:=omega) only[Ac,↓Pc,simprocAttr,ly,Of]
    repeat' (first|with_reducible refine And.intro ?_ ?_|omega)
    refine hK _ ?_;clear hK K
    repeat (refine Xu ?_)
    refine Va X0 ?_
    refine ak _ (i+1,xs++[bq c.length true]) ⟨by dsimp only;omega,cS.symm⟩ (by dsimp only;omega) ?_
    exact Xs false [0,3] X0
  · rw[List.take_of_length_le (by omega)] at cF
    ((repeat' (first|refine Va X0 ?_|(refine Xi ?_ ?_<;>try intro ht)|exact Xx|fail)))
    refine aq _ _ rfl ?_;clear ak aq Ql
    repeat (refine Xu ?_)
    refine Vb X0 ?_
    rw[cF,an]
    exact Xw true [] X0
end T

