import Derived.Test.YtafhoboejkcmiaaGreatX46
import Derived.Test.YtafhoboejkcmiaaGreatX47
import Derived.Test.YtafhoboejkcmiaaGreatX48
import Derived.Test.YtafhoboejkcmiaaGreatX14
import Derived.Test.YtafhoboejkcmiaaGreatX52
set_option linter.unusedVariables false
set_option linter.unusedSimpArgs false
set_option linter.unnecessarySimpa false
set_option linter.unusedSectionVars false
set_option maxHeartbeats 64000000
set_option maxRecDepth 20000
open Go Go.Am Go.Proofs
open Nat (reduceEqDiff reduceAdd reduceLeDiff reduceMul)
open Int (reduceNeg reduceLE reduceToNat)
namespace T
def refsU (D L:Nat→Nat) (n:Nat):List (List AV):=(List.range n).map fun i=>[.ref (D i) 1 0 (L i)]
theorem refsU_len (D L:Nat→Nat) (n:Nat):(refsU D L n).length=n:=by unfold refsU;simp
theorem refsU_get {D L:Nat→Nat} {n i:Nat} (h:i<n):(refsU D L n)[i]?=some [.ref (D i) 1 0 (L i)]:=by unfold refsU;rw[List.getElem?_map,List.getElem?_range h];rfl
structure UsO (n:Nat) (L D:Nat→Nat) (U:Nat) (R:List (List Int)) (os:List Ob):Prop where
  out:os[U]?=some (.arr 1 (refsU D L n))
  row:∀ i,i<n→os[D i]?=some (.arr 1 (ints (R.getD i [])))∧(R.getD i []).length=L i
  inj:∀ i j,i<n→j<n→D i=D j→i=j
  len:R.length=n
theorem UsO.app {n:Nat} {L D:Nat→Nat} {U:Nat} {R:List (List Int)} {os:List Ob} (h:UsO n L D U R os) (l:List Ob):UsO n L D U R (os++l):=⟨oLo h.out l,fun i hi=>⟨oLo (h.row i hi).1 l,(h.row i hi).2⟩,h.inj,h.len⟩
theorem UsO.ne {n:Nat} {L D:Nat→Nat} {U:Nat} {R:List (List Int)} {os:List Ob} (h:UsO n L D U R os) {i:Nat} (hi:i<n):D i≠U:=fun e=>by
  have h1:=(h.row i hi).1
  rw[e,h.out] at h1
  simp only[Option.some.injEq,Ob.arr.injEq,true_and] at h1
  have h2:=refsU_get (D:=D) (L:=L) hi
  rw[h1] at h2
  unfold ints at h2
  rw[List.getElem?_map] at h2
  cases hx:(R.getD i [])[i]? with
  | none=>rw[hx] at h2;simp at h2
  | some x=>rw[hx] at h2;simp at h2
theorem UsO.put {n:Nat} {L D:Nat→Nat} {U:Nat} {R:List (List Int)} {os:List Ob} (h:UsO n L D U R os) {i:Nat} (hi:i<n) {r:List Int} (hr:r.length=L i):UsO n L D U (R.set i r) (os.set (D i) (.arr 1 (ints r))):=by
  refine⟨by rw[List.getElem?_set_ne (h.ne hi)];exact h.out,fun j hj=>?_,h.inj,by rw[List.length_set];exact h.len⟩
  rw[getD_setN _ (by rw[h.len];exact hi)]
  by_cases e:i=j
  · subst e
    rw[if_pos rfl]
    exact⟨oSe (h.row i hi).1,hr⟩
  · rw[if_neg e,List.getElem?_set_ne (fun hh=>e (h.inj i j hi hj hh))]
    exact h.row j hj
theorem UsO.other {n:Nat} {L D:Nat→Nat} {U:Nat} {R:List (List Int)} {os:List Ob} (h:UsO n L D U R os) {k:Nat} (hU:k≠U) (hD:∀ i,i<n→k≠D i) (y:Ob):UsO n L D U R (os.set k y) :=
  ⟨by rw[List.getElem?_set_ne hU];exact h.out,fun j hj=>⟨by rw[List.getElem?_set_ne (hD j hj)];exact (h.row j hj).1,(h.row j hj).2⟩,h.inj,h.len⟩
theorem UsO.push {i:Nat} {L D:Nat→Nat} {U:Nat} {R:List (List Int)} {os:List Ob} (h:UsO i L D U R os) (z:List Int) (n0:Nat) (hz:z.length=n0) (hn:n0=L i) (b:Ob) :
    UsO (i+1) L (fun j=>if j=i then os.length else D j) (os.length+2) (R++[z]) (os.set U .gone++[.arr 1 (ints z),b,.arr 1 (refsU D L i++[[.ref os.length 1 0 n0]])]):=by
  have hlt:∀ j,j<i→D j<os.length:=fun j hj=>(List.getElem?_eq_some_iff.1 (h.row j hj).1).1
  refine⟨?_,fun j hj=>?_,fun a c ha hc e=>?_,by simp[h.len]⟩
  · rw[oLs]
    simp only[List.getElem?_cons_succ,List.getElem?_cons_zero,Option.some.injEq,Ob.arr.injEq,true_and]
    unfold refsU
    rw[List.range_succ,List.map_append,List.map_singleton,hn]
    congr 1
    · refine List.map_congr_left fun j hj=>?_
      have:=List.mem_range.1 hj
      show _=[AV.ref (if j=i then os.length else D j) 1 0 (L j)]
      rw[if_neg (by omega)]
    · show _=[[AV.ref (if i=i then os.length else D i) 1 0 (L i)]]
      rw[if_pos rfl]
  · by_cases e:j=i
    · subst e
      have hg:(R++[z]).getD j []=z:=by
        rw[List.getD_eq_getElem?_getD,List.getElem?_append_right (by rw[h.len];exact Nat.le_refl _),h.len,Nat.sub_self];rfl
      rw[if_pos rfl,hg]
      have:=oLs os [.arr 1 (ints z),b,.arr 1 (refsU D L j++[[.ref os.length 1 0 n0]])] U 0 .gone
      rw[Nat.add_zero] at this
      exact⟨by rw[this];rfl,by rw[← hn,← hz]⟩
    · have hj':j<i:=by omega
      have hg:(R++[z]).getD j []=R.getD j []:=by
        rw[List.getD_eq_getElem?_getD,List.getElem?_append_left (by rw[h.len];exact hj'),← List.getD_eq_getElem?_getD]
      rw[if_neg e,hg]
      exact⟨oLo (by rw[List.getElem?_set_ne (Ne.symm (h.ne hj'))];exact (h.row j hj').1) _,(h.row j hj').2⟩
  · by_cases e1:a=i
    · by_cases e2:c=i
      · omega
      · rw[if_pos e1,if_neg e2] at e
        have:=hlt c (by omega);omega
    · by_cases e2:c=i
      · rw[if_neg e1,if_pos e2] at e
        have:=hlt a (by omega);omega
      · rw[if_neg e1,if_neg e2] at e
        exact h.inj a c (by omega) (by omega) e
theorem rMissing_ok (plan:List Int) (hl:plan.length<1000000):Holds Tryz.prog 38 [.tree 1 (ints plan)] [] (.lit (.int .i64 (missV plan))) []:=by
  generalize hres:missV plan=res
  refine Holds.of_body' (fn:=Tryz.f38) 19 0 [.tmp 2] Tryz.func38 rfl rfl rfl rfl rfl (by simp) ?_
  ((try revert hK K);(repeat' (first|refine Vb X0 ?_|(refine V2 X0 ?_ ?_<;>try with_reducible intro hb)|(refine Xi ?_ ?_<;>try intro ht)|refine VD ?_ ?_|exact Xx|fail))<;>try with_reducible intro K hK)
  refine W_loopS (fun z:Nat × Int=>(⟨slots [(0,.tree 1 (ints plan)),(3,.lit (.int .i64 z.2)),(4,.lit (.int .i64 z.1))],[]⟩:St)) (fun z=>z.1≤plan.length∧0≤z.2∧z.2≤z.1∧z.2+missV (plan.drop z.1)=res) (fun z=>plan.length - z.1) (0,0) ⟨Nat.zero_le _,Int.le_refl _,Int.le_refl _,by rw[List.drop_zero,hres];exact Int.zero_add _⟩ (Xv X0) ?_
  rintro ⟨k,n⟩ ⟨hk,hn0,hn1,hr⟩ Ql hnl hel
  dsimp only at hk hn0 hn1 hr ⊢
  by_cases hk':k<plan.length
  · rw[getD_drop0 plan k 0 hk'] at hr
    unfold missV at hr
    rw[List.countP_cons] at hr
    generalize hx:plan.getD k 0=x at *
    by_cases hneg:x<0
    · rw[if_pos (decide_eq_true hneg)] at hr
      ((try revert hK K);(repeat' (first|refine Va @hx ?_|(refine V2 @hx ?_ ?_<;>try with_reducible intro hb)|(refine Xi ?_ ?_<;>try intro ht)|refine VD ?_ ?_|exact Xx|fail))<;>try with_reducible intro K hK)
      all_goals try (exfalso;omega)
      exact hnl _ (k+1,n+1) ⟨by dsimp only;omega,by dsimp only;omega,by dsimp only;omega,by unfold missV;dsimp only;omega⟩ (by dsimp only;omega) (Xv X0)
    · rw[if_neg (by simpa using hneg)] at hr
      ((try revert hK K);(repeat' (first|refine Va @hx ?_|(refine V2 @hx ?_ ?_<;>try with_reducible intro hb)|(refine Xi ?_ ?_<;>try intro ht)|refine VD ?_ ?_|exact Xx|fail))<;>try with_reducible intro K hK)
      all_goals try (exfalso;omega)
      exact hnl _ (k+1,n) ⟨by dsimp only;omega,by dsimp only;omega,by dsimp only;omega,by unfold missV;dsimp only;omega⟩ (by dsimp only;omega) (Xv X0)
  · rw[List.drop_eq_nil_of_le (by omega)] at hr
    have:n=res:=by rw[← hr];simp[missV]
    subst this
    ((try revert hK K);(repeat' (first|refine Va X0 ?_|(refine V2 X0 ?_ ?_<;>try with_reducible intro hb)|(refine Xi ?_ ?_<;>try intro ht)|refine VD ?_ ?_|exact Xx|fail))<;>try with_reducible intro K hK)
    refine hel _ _ rfl ?_;clear hnl hel Ql
    repeat (first|refine Xu ?_)
    ((try revert hK K);(repeat' (first|refine Vb X0 ?_|(refine V2 X0 ?_ ?_<;>try with_reducible intro hb)|(refine Xi ?_ ?_<;>try intro ht)|refine VD ?_ ?_|exact Xx|fail))<;>try with_reducible intro K hK)
    exact RetOK_pure' rfl rfl
theorem getD_rep0 (n j:Nat):(List.replicate n (0:Int)).getD j 0=0:=by
  rw[List.getD_eq_getElem?_getD,List.getElem?_replicate];split<;>rfl
structure BO (m:Mdl) (aside:List Bool) (L D:Nat→Nat) (U:Nat) (R:List (List Int)) (os:List Ob):Prop where
  o0:os[0]?=some (.var (eMdl m))
  o1:os[1]?=some (.arr 1 (bools aside))
  us:UsO m.cls.length L D U R os
  u0:U≠0∧U≠1∧∀ i,i<m.cls.length→D i≠0∧D i≠1
theorem BO.app {m:Mdl} {aside:List Bool} {L D:Nat→Nat} {U:Nat} {R:List (List Int)} {os:List Ob} (h:BO m aside L D U R os) (l:List Ob):BO m aside L D U R (os++l):=⟨oLo h.o0 l,oLo h.o1 l,h.us.app l,h.u0⟩
theorem BO.far {m:Mdl} {aside:List Bool} {L D:Nat→Nat} {U:Nat} {R:List (List Int)} {os:List Ob} (h:BO m aside L D U R os):os.length≠0∧os.length≠1∧os.length≠U∧∀ i,i<m.cls.length→os.length≠D i:=by
  have h0:=(List.getElem?_eq_some_iff.1 h.o0).1
  have h1:=(List.getElem?_eq_some_iff.1 h.o1).1
  have h2:=(List.getElem?_eq_some_iff.1 h.us.out).1
  exact⟨by omega,by omega,by omega,fun i hi=>by have:=(List.getElem?_eq_some_iff.1 (h.us.row i hi).1).1;omega⟩
theorem BO.other {m:Mdl} {aside:List Bool} {L D:Nat→Nat} {U:Nat} {R:List (List Int)} {os:List Ob} (h:BO m aside L D U R os) {k:Nat} (hk:k≠0∧k≠1∧k≠U∧∀ i,i<m.cls.length→k≠D i) (y:Ob):BO m aside L D U R (os.set k y) :=
  ⟨by rw[List.getElem?_set_ne hk.1];exact h.o0,by rw[List.getElem?_set_ne hk.2.1];exact h.o1,h.us.other hk.2.2.1 hk.2.2.2 y,h.u0⟩
theorem BO.put {m:Mdl} {aside:List Bool} {L D:Nat→Nat} {U:Nat} {R:List (List Int)} {os:List Ob} (h:BO m aside L D U R os) {i:Nat} (hi:i<m.cls.length) {r:List Int} (hr:r.length=L i):BO m aside L D U (R.set i r) (os.set (D i) (.arr 1 (ints r))) :=
  ⟨by rw[List.getElem?_set_ne (h.u0.2.2 i hi).1];exact h.o0,by rw[List.getElem?_set_ne (h.u0.2.2 i hi).2];exact h.o1,h.us.put hi hr,h.u0⟩
theorem BO.asd {m:Mdl} {aside:List Bool} {L D:Nat→Nat} {U:Nat} {R:List (List Int)} {os:List Ob} (h:BO m aside L D U R os) (ad:List Bool):BO m ad L D U R (os.set 1 (.arr 1 (bools ad))) :=
  ⟨by rw[List.getElem?_set_ne (by decide)];exact h.o0,oSe h.o1,h.us.other (Ne.symm h.u0.2.1) (fun i hi=>Ne.symm (h.u0.2.2 i hi).2) _,h.u0⟩
structure BI (m:Mdl) (L:Nat→Nat) (k:Nat) (s:BS) (R:List (List Int)):Prop where
  pm:PM m s.plan
  al:s.aside.length=m.cls.length
  bl:s.best.length=m.cls.length
  bm:missV s.best≤missV s.plan
  cnt:∀ a b:Nat,a<m.cls.length→b<L a→(R.getD a []).getD b 0=s.u a b
  rng:∀ a b,0≤s.u a b∧s.u a b≤k
theorem BI.asd {m:Mdl} {L:Nat→Nat} {k:Nat} {s:BS} {R:List (List Int)} (h:BI m L k s R) (a:Nat):BI m L (k+1) { s with aside:=s.aside.set a true } R :=
  ⟨h.pm,by simp[h.al],h.bl,h.bm,h.cnt,fun a b=>⟨(h.rng a b).1,by have:=(h.rng a b).2;dsimp only;omega⟩⟩
theorem BI.inc {m:Mdl} {L:Nat→Nat} {k:Nat} {s:BS} {R:List (List Int)} (h:BI m L k s R) (hR:R.length=m.cls.length) {a q:Nat} (ha:a<m.cls.length) (hq:q<L a) (hl:(R.getD a []).length=L a) {p b2:List Int} (h1:PM m p) (h2:b2.length=m.cls.length) (h3:missV b2≤missV p) :
    BI m L (k+1) ⟨p,b2,s.aside,incU s.u a q⟩ (R.set a ((R.getD a []).set q (s.u a q+1))):=by
  refine⟨h1,h.al,h2,h3,fun a' b' ha' hb'=>?_,fun a' b'=>?_⟩
  · rw[getD_setN _ (by rw[hR];exact ha)]
    dsimp only
    unfold incU
    by_cases e:a=a'
    · subst e
      rw[if_pos rfl,getD_setI]
      by_cases e2:q=b'
      · subst e2
        rw[if_pos ⟨rfl,by rw[hl];exact hq⟩,if_pos ⟨rfl,rfl⟩]
      · rw[if_neg (fun hh=>e2 hh.1),if_neg (fun hh=>e2 (by have:=hh.2;omega))]
        exact h.cnt a b' ha' hb'
    · rw[if_neg e,if_neg (fun hh=>e (by have:=hh.1;omega))]
      exact h.cnt a' b' ha' hb'
  · have:=h.rng a' b'
    dsimp only
    unfold incU
    split
    · omega
    · omega
theorem costT_ok3 {m:Mdl} {plan:List Int} (hm:VM m) (hp:PM m plan):costT m plan=(totalL (rulesV m plan) 0,rulesV m plan,0):=by
  rw[costT,if_neg (by rw[valid_iff.2 hm];simp),if_neg (by rw[pm_planned hp];simp)]
  rfl
theorem rBuild_ok (m:Mdl) (hmB:MB m) (n:Int):Holds Tryz.prog 13 [.agg (eMdl m),.lit (.int .i64 n)] [] (.tup [.tree 1 (ints (buildT m n).1),.lit (.int .i64 (buildT m n).2)]) []:=by
  have hsat:=rSaturate_ok m hmB
  generalize hres:buildT m n=res
  unfold buildT at hres
  unfold satT at hsat
  by_cases hv:validV m≠0
  · rw[if_pos hv] at hsat hres
    refine Holds.of_body' (fn:=Tryz.f13) 202 0 [.tmp 4,.tmp 5] Tryz.func13 rfl rfl rfl rfl rfl (by simp) ?_
    ((try revert hK K);(repeat' (first|refine Vd X0 hsat ?_|(refine V2 X0 ?_ ?_<;>try with_reducible intro hb)|(refine Xi ?_ ?_<;>try intro ht)|refine VD ?_ ?_|exact Xx|fail))<;>try with_reducible intro K hK)
    all_goals try (exfalso;omega)
    rw[← hres]
    exact RetOK_sel [] true (by decide) trivial (by decide) (by decide) (ArgR.tup2 ArgR.nil (.pure rfl))
  rw[if_neg hv] at hsat hres
  have hm:=valid_iff.1 (by omega:validV m=0)
  by_cases hrg:n<0∨65536<n
  · rw[if_pos hrg] at hres
    refine Holds.of_body' (fn:=Tryz.f13) 202 0 [.tmp 4,.tmp 5] Tryz.func13 rfl rfl rfl rfl rfl (by simp) ?_
    repeat' (first|((fail_if_success (first|refine W_at 6 ?_|refine W_atE 6 ?_));refine Xq X0 ?_;intro K hK)|refine Xo X0 ?_|refine Xc (hsat) ?_|(refine hK _ ?_;clear hK K)|(refine Xg X0 ?_ ?_<;>try intro hb)|(refine Xi ?_ ?_<;>try intro ht)|refine XY ?_|refine Xd ?_ ?_|exact Xx|fail)
    all_goals try (exfalso;omega)
    all_goals
      rw[← hres]
      exact RetOK_sel [] true (by decide) trivial (by decide) (by decide) (ArgR.tup2 ArgR.nil (.pure rfl))
  rw[if_neg hrg] at hres
  have hc24:=hm.cls
  have hsp:=satV_pm m
  have hspl:=hsp.len
  unfold buildV bld0 at hres
  generalize satV m=sp at *
  dsimp only at hsat
  refine Holds.of_body' (fn:=Tryz.f13) 202 0 [.tmp 4,.tmp 5] Tryz.func13 rfl rfl rfl rfl rfl (by simp) ?_
  ((try revert hK K);(repeat' (first|refine Vd X0 hsat ?_|(refine V2 X0 ?_ ?_<;>try with_reducible intro hb)|(refine Xi ?_ ?_<;>try intro ht)|refine VD ?_ ?_|exact Xx|fail))<;>try with_reducible intro K hK)
  all_goals try (exfalso;omega)
  refine W_turn (Turns.nil 10 1 (by simp only[Kc,simprocAttr]) (by decide)) ?_
  refine W_loopS (fun z:Nat × List Ob × (Nat→Nat) × Nat=>(⟨slots [(1,.lit (.int .i64 n)),(2,.ptr 0 0 0),(6,.tree 1 (ints sp)),(8,.tree 1 (ints sp)),(9,.ref 1 1 0 sp.length),(10,.ref z.2.2.2 1 0 z.1),(11,.lit (.int .i64 z.1))],z.2.1⟩:St))
    (fun z=>z.1≤sp.length∧z.2.1[0]?=some (.var (eMdl m))∧z.2.1[1]?=some (.arr 1 (bools (List.replicate sp.length false)))∧UsO z.1 (fun i=>(m.cls.getD i default).length) z.2.2.1 z.2.2.2 ((m.cls.take z.1).map fun l=>List.replicate l.length 0) z.2.1∧(z.2.2.2≠0∧z.2.2.2≠1∧∀ i,i<z.1→z.2.2.1 i≠0∧z.2.2.1 i≠1)) (fun z=>sp.length - z.1)
    (0,[.var (eMdl m),.arr 1 (bools (List.replicate sp.length false)),.arr 1 []],fun _=>0,2) ⟨Nat.zero_le _,rfl,rfl,⟨rfl,fun i hi=>by simp at hi,fun i j hi=>by simp at hi,by simp⟩,⟨by dsimp only;decide,by dsimp only;decide,fun i hi=>by simp at hi⟩⟩ (Xv X0) ?_
  rintro ⟨i,os,D,U⟩ ⟨hi,f0,f1,hus,hu0⟩ Ql hnl hel
  dsimp only at hi f0 f1 hus hu0 ⊢
  by_cases hi':i<sp.length
  · have hl24:=hm.opt _ (getD_mem (l:=m.cls) (i:=i) (d:=default) (by omega))
    generalize hll:m.cls.getD i default=l at *
    have hout:=hus.out
    have hrl:=refsU_len D (fun i=>(m.cls.getD i default).length) i
    have fal:=fun l=>oLo hout l
    have fsl:=fun l y=>oSo hout l (y:=y)
    have fal2:=fun l1 l2=>oLo (oLo hout l1) l2
    have fsl2:=fun l1 l2 y=>oSo (oLo hout l1) l2 (y:=y)
    have htk:=List.take_of_length_le (Nat.le_of_eq hrl)
    ((try revert hK K);(repeat' (first|refine Va (X5 @f0 @hll @eCls.eq_1 @hout (X5 @hrl @fal @fsl @fal2 (X5 @fsl2 @htk @oL0 (@oLk) (X2 @oS0 @List.append_assoc.{0})))) ?_|(refine V2 (X5 @f0 @hll @eCls.eq_1 @hout (X5 @hrl @fal @fsl @fal2 (X5 @fsl2 @htk @oL0 (@oLk) (X2 @oS0 @List.append_assoc.{0})))) ?_ ?_<;>try with_reducible intro hb)|(refine Xi ?_ ?_<;>try intro ht)|refine VD ?_ ?_|exact Xx|fail))<;>try with_reducible intro K hK)
    have hol:=(List.getElem?_eq_some_iff.1 f1).1
    have hpu:=hus.push (List.replicate l.length 0) l.length (by simp) (by rw[hll]) (.arr 1 [[.ref os.length 1 0 l.length]])
    have htk2:(m.cls.take (i+1)).map (fun l=>List.replicate l.length (0:Int))=(m.cls.take i).map (fun l=>List.replicate l.length (0:Int))++[List.replicate l.length 0]:=by
      rw[List.take_add_one,List.map_append]
      congr 1
      rw[← hll,List.getD_eq_getElem?_getD]
      rw[List.getElem?_eq_getElem (by omega)];rfl
    rw[← htk2] at hpu
    refine hnl _ (i+1,os.set U .gone++[.arr 1 (ints (List.replicate l.length 0)),.arr 1 [[.ref os.length 1 0 l.length]],.arr 1 (refsU D (fun i=>(m.cls.getD i default).length) i++[[.ref os.length 1 0 l.length]])],fun j=>if j=i then os.length else D j,os.length+2) ⟨by dsimp only;omega,oLo (by rw[List.getElem?_set_ne hu0.1];exact f0) _,oLo (by rw[List.getElem?_set_ne hu0.2.1];exact f1) _,hpu,⟨by dsimp only;omega,by dsimp only;omega,fun j hj=>?_⟩⟩ (by dsimp only;omega) (Xv X0)
    dsimp only at hj ⊢
    split
    · omega
    · exact hu0.2.2 j (by omega)
  · obtain rfl:i=sp.length:=by omega
    have hR0:(m.cls.take sp.length).map (fun l=>List.replicate l.length (0:Int))=m.cls.map (fun l=>List.replicate l.length (0:Int)):=by rw[List.take_of_length_le (by omega)]
    rw[hR0] at hus
    have o0:BO m (List.replicate sp.length false) (fun i=>(m.cls.getD i default).length) D U (m.cls.map fun l=>List.replicate l.length (0:Int)) os:=⟨f0,f1,by rw[← hspl];exact hus,⟨hu0.1,hu0.2.1,fun i hi=>hu0.2.2 i (by omega)⟩⟩
    have k0:BI m (fun i=>(m.cls.getD i default).length) 0 ⟨sp,sp,List.replicate sp.length false,fun _ _=>0⟩ (m.cls.map fun l=>List.replicate l.length (0:Int)) :=
      ⟨hsp,by simp[hspl],hspl,Int.le_refl _,fun a b ha _=>by
        rw[show (m.cls.map fun l=>List.replicate l.length (0:Int)).getD a []=List.replicate (m.cls.getD a default).length 0 by
          rw[List.getD_eq_getElem?_getD,List.getElem?_map,List.getD_eq_getElem?_getD,List.getElem?_eq_getElem ha];rfl,getD_rep0],fun _ _=>⟨Int.le_refl _,Int.le_refl _⟩⟩
    clear hus f0 f1 hu0 hR0
    rw[← hspl] at hres
    ((try revert hK K);(repeat' (first|refine Va X0 ?_|(refine V2 X0 ?_ ?_<;>try with_reducible intro hb)|(refine Xi ?_ ?_<;>try intro ht)|refine VD ?_ ?_|exact Xx|fail))<;>try with_reducible intro K hK)
    refine hel _ _ rfl ?_;clear hnl hel Ql
    repeat (first|refine Xu ?_)
    generalize (m.cls.map fun l=>List.replicate l.length (0:Int))=R0 at *
    clear hi hi' hsp
    have hn0:0≤n:=by omega
    have hn1:n≤65536:=by omega
    ((try revert hK K);(repeat' (first|refine Vb X0 ?_|(refine V2 X0 ?_ ?_<;>try with_reducible intro hb)|(refine Xi ?_ ?_<;>try intro ht)|refine VD ?_ ?_|exact Xx|fail))<;>try with_reducible intro K hK)
    refine W_loopS (fun z:Nat × BS × List (List Int) × List Ob=>(⟨slots [(1,.lit (.int .i64 n)),(2,.ptr 0 0 0),(6,.tree 1 (ints z.2.1.plan)),(8,.tree 1 (ints z.2.1.best)),(9,.ref 1 1 0 m.cls.length),(10,.ref U 1 0 m.cls.length),(12,.lit (.int .i64 z.1))],z.2.2.2⟩:St))
      (fun z=>z.1≤n.toNat∧BI m (fun i=>(m.cls.getD i default).length) z.1 z.2.1 z.2.2.1∧BO m z.2.1.aside (fun i=>(m.cls.getD i default).length) D U z.2.2.1 z.2.2.2∧(bldR m (n.toNat - z.1) z.2.1,(0:Int))=res) (fun z=>n.toNat - z.1) (0,⟨sp,sp,List.replicate sp.length false,fun _ _=>0⟩,R0,os) ⟨Nat.zero_le _,k0,o0,hres⟩ (by rw[← hspl];exact Xv X0) ?_
    clear k0 o0 hres
    rintro ⟨k,s,R,os⟩ ⟨hk,hB,hO,hr⟩ Ql hnl hel
    dsimp only at hk hB hO hr ⊢
    have hpm:=hB.pm
    have hpl:=hpm.len
    have hal:=hB.al
    have f0:=hO.o0
    have f1:=hO.o1
    by_cases hk':k<n.toNat
    · rw[show n.toNat - k=(n.toNat - (k+1))+1 by omega,bldR] at hr
      have hnr:=nextC_range s.plan s.aside 0
      ((try revert hK K);(repeat' (first|refine Va X0 ?_|(refine V2 X0 ?_ ?_<;>try with_reducible intro hb)|(refine Xi ?_ ?_<;>try intro ht)|refine VD ?_ ?_|exact Xx|fail))<;>try with_reducible intro K hK)
      all_goals try (exfalso;omega)
      refine W_loopS (fun z:Nat × Int=>(⟨slots [(1,.lit (.int .i64 n)),(2,.ptr 0 0 0),(6,.tree 1 (ints s.plan)),(8,.tree 1 (ints s.best)),(9,.ref 1 1 0 m.cls.length),(10,.ref U 1 0 m.cls.length),(12,.lit (.int .i64 k)),(13,.lit (.int .i64 (nextC (s.plan.drop z.1) s.aside z.1))),(14,.lit (.int .i64 z.2))],os⟩:St)) (fun z=>z.1≤s.plan.length∧z.2=z.1 - 1) (fun z=>z.1) (s.plan.length,(s.plan.length:Int) - 1) ⟨Nat.le_refl _,rfl⟩ (by rw[List.drop_length,nextC];exact Xv X0) ?_
      rintro ⟨c,x⟩ ⟨hc,hx⟩ Ql2 hnl2 hel2
      dsimp only at hc hx ⊢
      cases c with
      | succ c =>
        obtain rfl:x=c:=by omega
        have e1:nextC (s.plan.drop c) s.aside c=if s.plan.getD c 0<0∧s.aside.getD c false=false then (c:Int) else nextC (s.plan.drop (c+1)) s.aside (c+1):=by rw[getD_drop0 s.plan c 0 (by omega),nextC]
        generalize hpx:s.plan.getD c 0=px at *
        generalize hax:s.aside.getD c false=ax at *
        by_cases hneg:px<0
        · cases ax
          · rw[if_pos ⟨hneg,rfl⟩] at e1
            ((try revert hK K);(repeat' (first|refine Va (X5 @hpx @f1 @hax @hal (X2 @bools_get @bools_length)) ?_|(refine V2 (X5 @hpx @f1 @hax @hal (X2 @bools_get @bools_length)) ?_ ?_<;>try with_reducible intro hb)|(refine Xi ?_ ?_<;>try intro ht)|refine VD ?_ ?_|exact Xx|fail))<;>try with_reducible intro K hK)
            all_goals try (exfalso;omega)
            exact hnl2 _ (c,(c:Int) - 1) ⟨by dsimp only;omega,rfl⟩ (by dsimp only;omega) (by dsimp only;rw[e1];exact Xv X0)
          · rw[if_neg (fun h=>by cases h.2)] at e1
            ((try revert hK K);(repeat' (first|refine Va (X4 @hpx @f1 @hax @hal) ?_|(refine V2 (X4 @hpx @f1 @hax @hal) ?_ ?_<;>try with_reducible intro hb)|(refine Xi ?_ ?_<;>try intro ht)|refine VD ?_ ?_|exact Xx|fail))<;>try with_reducible intro K hK)
            all_goals try (exfalso;omega)
            exact hnl2 _ (c,(c:Int) - 1) ⟨by dsimp only;omega,rfl⟩ (by dsimp only;omega) (by dsimp only;rw[e1];exact Xv X0)
        · rw[if_neg (fun h=>hneg h.1)] at e1
          ((try revert hK K);(repeat' (first|refine Va (X4 @hpx @f1 @hax @hal) ?_|(refine V2 (X4 @hpx @f1 @hax @hal) ?_ ?_<;>try with_reducible intro hb)|(refine Xi ?_ ?_<;>try intro ht)|refine VD ?_ ?_|exact Xx|fail))<;>try with_reducible intro K hK)
          all_goals try (exfalso;omega)
          exact hnl2 _ (c,(c:Int) - 1) ⟨by dsimp only;omega,rfl⟩ (by dsimp only;omega) (by dsimp only;rw[e1];exact Xv X0)
      | zero =>
        rw[List.drop_zero]
        obtain rfl:x = -1:=by omega
        ((try revert hK K);(repeat' (first|refine Va X0 ?_|(refine V2 X0 ?_ ?_<;>try with_reducible intro hb)|(refine Xi ?_ ?_<;>try intro ht)|refine VD ?_ ?_|exact Xx|fail))<;>try with_reducible intro K hK)
        all_goals try (exfalso;omega)
        refine hel2 _ _ rfl ?_
        clear hnl2 hel2
        repeat (first|refine Xu ?_)
        by_cases hcn:nextC s.plan s.aside 0<0
        · rw[if_pos hcn] at hr
          ((try revert hK K);(repeat' (first|refine Va X0 ?_|(refine V2 X0 ?_ ?_<;>try with_reducible intro hb)|(refine Xi ?_ ?_<;>try intro ht)|refine VD ?_ ?_|exact Xx|fail))<;>try with_reducible intro K hK)
          all_goals try (exfalso;omega)
          refine hel _ _ rfl ?_;clear hnl hel Ql
          repeat (first|refine Xu ?_)
          ((try revert hK K);(repeat' (first|refine Vb X0 ?_|(refine V2 X0 ?_ ?_<;>try with_reducible intro hb)|(refine Xi ?_ ?_<;>try intro ht)|refine VD ?_ ?_|exact Xx|fail))<;>try with_reducible intro K hK)
          rw[← hr]
          exact RetOK_sel [] true (by decide) trivial (by decide) (by decide) (ArgR.tup2 (.pure rfl) (.pure rfl))
        · rw[if_neg hcn] at hr
          obtain ⟨a,hca⟩ :∃a:Nat,nextC s.plan s.aside 0=a:=⟨(nextC s.plan s.aside 0).toNat,by omega⟩
          have ha:a<m.cls.length:=by omega
          obtain ⟨g1,-,-⟩:=step_pm (m:=m) hpm (by omega:0≤nextC s.plan s.aside 0)
          obtain ⟨g4,g5⟩:=step_best2 (m:=m) hB.bm
          have hst:bldStep m s=bldStep m s:=rfl
          conv at hst=>rhs;unfold bldStep
          rw[hca,Int.toNat_natCast] at hst
          rw[hca]
          clear hnr hcn hca
          have hl24:=hm.opt _ (getD_mem (l:=m.cls) (i:=a) (d:=default) ha)
          have hopt:∀ q:Nat,q<(m.cls.getD a default).length→optB m a q=true:=fun q hq=>optB_iff.2 ⟨by omega,by omega,by omega,by rw[Int.toNat_natCast];omega⟩
          have hout:=hO.us.out
          obtain ⟨hrow,hrl⟩:=hO.us.row a ha
          have hrr:=refsU_get (D:=D) (L:=fun i=>(m.cls.getD i default).length) ha
          have hru:=refsU_len D (fun i=>(m.cls.getD i default).length) m.cls.length
          have hcnt:=fun b hb=>hB.cnt a b ha hb
          have hrng:=hB.rng
          try dsimp only at hrl hrr hcnt
          generalize hll:m.cls.getD a default=l at *
          generalize hpk:bldPick m s.plan s.u a l.length 0 (-1,0,0)=pk at *
          obtain ⟨p1,p2,p3⟩:=pk
          dsimp only at hst
          ((try revert hK K);(repeat' (first|refine Va X0 ?_|(refine V2 X0 ?_ ?_<;>try with_reducible intro hb)|(refine Xi ?_ ?_<;>try intro ht)|refine VD ?_ ?_|exact Xx|fail))<;>try with_reducible intro K hK)
          all_goals try (exfalso;omega)
          refine W_loopS (fun z:Nat × Int × Int × Int=>(⟨slots [(1,.lit (.int .i64 n)),(2,.ptr 0 0 0),(6,.tree 1 (ints s.plan)),(8,.tree 1 (ints s.best)),(9,.ref 1 1 0 m.cls.length),(10,.ref U 1 0 m.cls.length),(12,.lit (.int .i64 k)),(13,.lit (.int .i64 a)),(15,.lit (.int .i64 z.2.1)),(16,.lit (.int .i64 z.2.2.1)),(17,.lit (.int .i64 z.2.2.2)),(18,.lit (.int .i64 z.1))],os⟩:St))
            (fun z=>z.1≤l.length∧(z.2.1 = -1∨(0≤z.2.1∧z.2.1<l.length∧(ejV m s.plan a z.2.1).isSome=true))∧(0≤z.2.2.1∧z.2.2.1≤200000)∧bldPick m s.plan s.u a (l.length - z.1) z.1 z.2=(p1,p2,p3)) (fun z=>l.length - z.1) (0,-1,0,0)
            ⟨Nat.zero_le _,.inl rfl,⟨by decide,by decide⟩,hpk⟩ (Xv X0) ?_
          clear hpk
          rintro ⟨q,b,fee,ct⟩ ⟨hq,hbk,hfee,hrp⟩ Ql2 hnl2 hel2
          dsimp only at hq hbk hfee hrp ⊢
          by_cases hq':q<l.length
          · rw[show l.length - q=(l.length - (q+1))+1 by omega,bldPick] at hrp
            have hob:=hopt q hq'
            have hej:=rEject_ok m s.plan a q hmB (by omega)
            unfold ejT at hej
            rw[if_neg (by rw[valid_iff.2 hm];simp),if_neg (by rw[pm_planned hpm];simp),if_neg (by rw[hob];simp)] at hej
            have hejp:=fun r h=>ejV_pm (r:=r) hpm hob h
            have huv:=hcnt q hq'
            have huk:=hrng a q
            generalize hejv:ejV m s.plan a (q:Int)=e at *
            generalize s.u a q=uk at *
            cases e with
            | none =>
              dsimp only at hrp hej
              ((try revert hK K);(repeat' (first|refine Vc (X3 @f0 @hll @eCls.eq_1) hej ?_|(refine V2 (X3 @f0 @hll @eCls.eq_1) ?_ ?_<;>try with_reducible intro hb)|(refine Xi ?_ ?_<;>try intro ht)|refine VD ?_ ?_|exact Xx|fail))<;>try with_reducible intro K hK)
              all_goals try (exfalso;omega)
              exact hnl2 _ (q+1,b,fee,ct) ⟨by dsimp only;omega,hbk,hfee,hrp⟩ (by dsimp only;omega) (Xv X0)
            | some r =>
              dsimp only at hrp hej
              obtain ⟨hrp1,hrl1,_⟩:=hejp r rfl
              have hrl2:=hrp1.len
              have hco:=refCost_ok m r.1 hmB (by omega)
              rw[costT_ok3 hm hrp1] at hco
              rw[show costP m r.1=totalL (rulesV m r.1) 0 from rfl] at hrp
              generalize totalL (rulesV m r.1) 0=n1 at *
              generalize hfe:(r.2.length:Int)+uk=fe at *
              ((try revert hK K);(repeat' (first|refine Vc (X5 @f0 @hll @eCls.eq_1 @hout (X5 @hru @hrr @hrow @hrl (X2 @huv @hfe))) (X2 hej hco) ?_|(refine V2 (X5 @f0 @hll @eCls.eq_1 @hout (X5 @hru @hrr @hrow @hrl (X2 @huv @hfe))) ?_ ?_<;>try with_reducible intro hb)|(refine Xi ?_ ?_<;>try intro ht)|refine VD ?_ ?_|exact Xx|fail))<;>try with_reducible intro K hK)
              all_goals try (exfalso;omega)
              all_goals first
                | (rw[if_pos (by omega)] at hrp;exact hnl2 _ (q+1,(q:Int),fe,n1) ⟨by dsimp only;omega,.inr ⟨by dsimp only;omega,by dsimp only;omega,by dsimp only;rw[hejv];rfl⟩,⟨by dsimp only;omega,by dsimp only;omega⟩,hrp⟩ (by dsimp only;omega) (Xv X0))
                | (rw[if_neg (by omega)] at hrp;exact hnl2 _ (q+1,b,fee,ct) ⟨by dsimp only;omega,hbk,hfee,hrp⟩ (by dsimp only;omega) (Xv X0))
          · rw[show l.length - q=0 by omega,bldPick] at hrp
            obtain ⟨rfl,rfl,rfl⟩:b=p1∧fee=p2∧ct=p3:=by simpa using hrp
            ((try revert hK K);(repeat' (first|refine Va (X3 @f0 @hll @eCls.eq_1) ?_|(refine V2 (X3 @f0 @hll @eCls.eq_1) ?_ ?_<;>try with_reducible intro hb)|(refine Xi ?_ ?_<;>try intro ht)|refine VD ?_ ?_|exact Xx|fail))<;>try with_reducible intro K hK)
            all_goals try (exfalso;omega)
            refine hel2 _ _ rfl ?_
            clear hnl2 hel2 hrp hq hq'
            repeat (first|refine Xu ?_)
            by_cases hb0:b<0
            · rw[if_pos hb0] at hst
              ((try revert hK K);(repeat' (first|refine Va (X3 @f1 @bools_set @hal) ?_|(refine V2 (X3 @f1 @bools_set @hal) ?_ ?_<;>try with_reducible intro hb)|(refine Xi ?_ ?_<;>try intro ht)|refine VD ?_ ?_|exact Xx|fail))<;>try with_reducible intro K hK)
              all_goals try (exfalso;omega)
              rw[hst] at hr
              exact hnl _ (k+1,{ s with aside:=s.aside.set a true },R,os.set 1 (.arr 1 (bools (s.aside.set a true)))) ⟨by dsimp only;omega,hB.asd a,hO.asd _,hr⟩ (by dsimp only;omega) (Xv X0)
            · rw[if_neg hb0] at hst
              obtain ⟨hb1,hb2,hb3⟩:=hbk.resolve_left (by omega)
              obtain ⟨q,rfl⟩ :∃q:Nat,b=q:=⟨b.toNat,by omega⟩
              have hq:q<l.length:=by omega
              have hej:=rEjectM_ok m hm s.plan hpm a q (hopt q hq)
              have hejp:=fun r h=>ejV_pm (r:=r) hpm (hopt q hq) h
              obtain ⟨r,hre⟩:=Option.isSome_iff_exists.1 hb3
              rw[hre] at hej hejp hst
              rw[Option.getD_some] at hst
              obtain ⟨hrp,hrl3,hrg⟩:=hejp r rfl
              have hrl4:=hrp.len
              unfold ejRR ejOb at hej
              dsimp only at hej
              have huv:=hcnt q hq
              have huk:=hrng a q
              have hO2:=hO.put ha (r:=(R.getD a []).set q (s.u a q+1)) (by rw[List.length_set,hrl];exact congrArg List.length hll.symm)
              rw[hst] at g1 g4 g5 hr
              dsimp only at g1 g4 g5
              generalize hfin:bldOut m r.2 r.1=fin at *
              have hfl:=g1.len
              have hB2:=hB.inc (a:=a) (q:=q) hO.us.len ha (by rw[hll];exact hq) (by rw[hll];exact hrl) g1 (b2:=if missV fin<missV s.best then fin else s.best) (by split;exact hfl;exact hB.bl) g5
              have hbl2:=hB.bl
              repeat' (first|((fail_if_success (first|refine W_at 36 ?_|refine W_atE 36 ?_));refine Xr (X5 @f0 @hll @eCls.eq_1 @hout (X5 @hru @hrr @hrow @hrl (X2 @huv @ints_set))) ?_;intro K hK)|refine Xo (X5 @f0 @hll @eCls.eq_1 @hout (X5 @hru @hrr @hrow @hrl (X2 @huv @ints_set))) ?_|(refine hK _ ?_;clear hK K)|(refine Xg (X5 @f0 @hll @eCls.eq_1 @hout (X5 @hru @hrr @hrow @hrl (X2 @huv @ints_set))) ?_ ?_<;>try intro hb)|(refine Xi ?_ ?_<;>try intro ht)|refine Xy ?_|refine Xd ?_ ?_|exact Xx|fail)
              all_goals try (exfalso;omega)
              generalize (R.getD a []).set q (s.u a q+1)=ra at *
              have hfar:=hO2.far
              have fN:=oL0 (os.set (D a) (.arr 1 (ints ra))) (.arr 1 (ints r.1)) []
              have hO3:=hO2.app [.arr 1 (ints r.1)]
              have f02:=hO2.o0
              generalize os.set (D a) (.arr 1 (ints ra))=os2 at *
              generalize R.set a ra=R2 at *
              clear hrow hout hrr hru hcnt huv huk f0 f1 hO hO2
              ((try revert hK K);(repeat' (first|refine Va @f02 ?_|(refine V2 @f02 ?_ ?_<;>try with_reducible intro hb)|(refine Xi ?_ ?_<;>try intro ht)|refine VD ?_ ?_|exact Xx|fail))<;>try with_reducible intro K hK)
              (refine Xn [] (hej) ?_;simp (disch:=omega) only[Ac,↓Pc,simprocAttr])
              ((try revert hK K);(repeat' (first|refine Va X0 ?_|(refine V2 X0 ?_ ?_<;>try with_reducible intro hb)|(refine Xi ?_ ?_<;>try intro ht)|refine VD ?_ ?_|exact Xx|fail))<;>try with_reducible intro K hK)
              generalize os2.length=nO at *
              refine W_loopS (fun z:Nat × List Int × List Ob=>(⟨slots [(1,.lit (.int .i64 n)),(2,.ptr 0 0 0),(8,.tree 1 (ints s.best)),(9,.ref 1 1 0 m.cls.length),(10,.ref U 1 0 m.cls.length),(12,.lit (.int .i64 k)),(26,.ref nO 1 0 z.2.1.length),(27,.tree 1 (ints r.2)),(29,.lit (.int .i64 z.1))],z.2.2⟩:St))
                (fun z=>z.1≤r.2.length∧PM m z.2.1∧z.2.2[nO]?=some (.arr 1 (ints z.2.1))∧BO m s.aside (fun i=>(m.cls.getD i default).length) D U R2 z.2.2∧bldOut m (r.2.drop z.1) z.2.1=fin) (fun z=>r.2.length - z.1) (0,r.1,os2++[.arr 1 (ints r.1)]) ⟨Nat.zero_le _,hrp,fN,hO3,hfin⟩ (Xv X0) ?_
              clear hfin hO3 fN hej hrp f02
              rintro ⟨j,nx,os⟩ ⟨hj,hpn,fN,hO,hrj⟩ Ql2 hnl2 hel2
              dsimp only at hj hpn fN hO hrj ⊢
              have hnl4:=hpn.len
              have f0:=hO.o0
              by_cases hj':j<r.2.length
              · have hgj:=hrg _ (getD_mem (d:=0) hj')
                rw[getD_drop0 r.2 j 0 hj',bldOut] at hrj
                generalize hgg:r.2.getD j 0=g at *
                have hpc:=possible_ok m nx g hm hpn hgj
                have hpn2:=plcM_pm hpn (c:=g.toNat) (by omega)
                repeat' (first|((fail_if_success (first|refine W_at 40 ?_|refine W_atE 40 ?_));refine Xr X0 ?_;intro K hK)|refine Xo X0 ?_|(refine hK _ ?_;clear hK K)|(refine Xg X0 ?_ ?_<;>try intro hb)|(refine Xi ?_ ?_<;>try intro ht)|refine Xy ?_|refine Xd ?_ ?_|exact Xx|fail)
                all_goals try (exfalso;omega)
                refine unBq ?_;intro Q hn he
                refine (join_here ⟨slots [(1,.lit (.int .i64 n)),(2,.ptr 0 0 0),(8,.tree 1 (ints s.best)),(9,.ref 1 1 0 m.cls.length),(10,.ref U 1 0 m.cls.length),(12,.lit (.int .i64 k)),(26,.ref nO 1 0 nx.length),(27,.tree 1 (ints r.2)),(29,.lit (.int .i64 j))],os.set nO (.arr 1 (ints (nx.set g.toNat (plcM m nx g.toNat))))⟩ hn ?_ (fun key=>?_))
                rotate_left
                · refine W_draw [] (.take 0 (.take 1 (.take 2 (.take 5 (.take 6 (.take 7 (.take 8 (.take 9 (.take 10 (.both 3 (.both 4 (.take 11 (.take 12 (.take 13 (.take 14 (.take 15 (.take 16 .nil)))))) 11 (.take 4 (.take 12 (.take 13 (.take 14 (.take 15 (.take 16 .nil))))))) 11 (.take 3 (.take 4 (.take 12 (.take 13 (.take 14 (.take 15 (.take 16 .nil))))))))))))))))) rfl (by decide) (by decide +kernel) ?_
                  simp (disch:=omega) only[Ac,↓Pc,simprocAttr,Pw,f0,fN,hgg]
                  repeat' (first|with_reducible refine And.intro ?_ ?_|omega|with_reducible rfl)
                  all_goals
                    refine callK_snap [] hpc (by decide) trivial ⟨.pure rfl,ArgR.frz (rows:=ints nx) fN (ints_wid _) (by simp only[Bc,Rc]) (by simp) (ints_frz _),.pure rfl,trivial⟩ rfl (by simp) ?_
                    simp (disch:=omega) only[Ac,↓Pc,simprocAttr,Pw,f0,fN,hgg,ints_set]
                    repeat' (first|with_reducible refine And.intro ?_ ?_|omega|with_reducible rfl)
                    refine .n _ (key _ ?_)
                    exact Xv X0
                (try clear hn;try clear he)
                ((try revert hK K);(repeat' (first|refine Va X0 ?_|(refine V2 X0 ?_ ?_<;>try with_reducible intro hb)|(refine Xi ?_ ?_<;>try intro ht)|refine VD ?_ ?_|exact Xx|fail))<;>try with_reducible intro K hK)
                exact hnl2 _ (j+1,nx.set g.toNat (plcM m nx g.toNat),os.set nO (.arr 1 (ints (nx.set g.toNat (plcM m nx g.toNat))))) ⟨by dsimp only;omega,hpn2,oSe fN,hO.other hfar _,hrj⟩ (by dsimp only;omega) (by simp only[List.length_set];exact Xv X0)
              · rw[List.drop_eq_nil_of_le (by omega),bldOut] at hrj
                rw[← hrj] at hr hB2
                ((try revert hK K);(repeat' (first|refine Va X0 ?_|(refine V2 X0 ?_ ?_<;>try with_reducible intro hb)|(refine Xi ?_ ?_<;>try intro ht)|refine VD ?_ ?_|exact Xx|fail))<;>try with_reducible intro K hK)
                all_goals try (exfalso;omega)
                refine hel2 _ _ rfl ?_
                clear hnl2 hel2
                repeat (first|refine Xu ?_)
                repeat' (first|((fail_if_success (first|refine W_at 42 ?_|refine W_atE 42 ?_));refine Xr X0 ?_;intro K hK)|refine Xo X0 ?_|(refine hK _ ?_;clear hK K)|(refine Xg X0 ?_ ?_<;>try intro hb)|(refine Xi ?_ ?_<;>try intro ht)|refine Xy ?_|refine Xd ?_ ?_|exact Xx|fail)
                refine W_turn (Turns.frzS 6 nO 1 (rows:=ints nx) fN (by rw[ints_length];simp only[Kc,simprocAttr]) (ints_wid _) (fun row h v hv=>by
                  unfold ints at h
                  obtain ⟨x,_,rfl⟩:=List.mem_map.1 h
                  exact .inl ⟨_,List.mem_singleton.1 hv⟩)) ?_
                have hm1:=rMissing_ok nx (by omega)
                have hm2:=rMissing_ok s.best (by omega)
                by_cases hlt:missV nx<missV s.best
                · rw[if_pos hlt] at hr hB2
                  ((try revert hK K);(repeat' (first|refine Vc X0 (X2 hm1 hm2) ?_|(refine V2 X0 ?_ ?_<;>try with_reducible intro hb)|(refine Xi ?_ ?_<;>try intro ht)|refine VD ?_ ?_|exact Xx|fail))<;>try with_reducible intro K hK)
                  all_goals try (exfalso;omega)
                  exact hnl _ (k+1,⟨nx,nx,s.aside,incU s.u a q⟩,R2,os.set nO .gone) ⟨by dsimp only;omega,hB2,hO.other hfar _,hr⟩ (by dsimp only;omega) (Xv X0)
                · rw[if_neg hlt] at hr hB2
                  ((try revert hK K);(repeat' (first|refine Vc X0 (X2 hm1 hm2) ?_|(refine V2 X0 ?_ ?_<;>try with_reducible intro hb)|(refine Xi ?_ ?_<;>try intro ht)|refine VD ?_ ?_|exact Xx|fail))<;>try with_reducible intro K hK)
                  all_goals try (exfalso;omega)
                  exact hnl _ (k+1,⟨nx,s.best,s.aside,incU s.u a q⟩,R2,os.set nO .gone) ⟨by dsimp only;omega,hB2,hO.other hfar _,hr⟩ (by dsimp only;omega) (Xv X0)
    · rw[show n.toNat - k=0 by omega,bldR] at hr
      ((try revert hK K);(repeat' (first|refine Va X0 ?_|(refine V2 X0 ?_ ?_<;>try with_reducible intro hb)|(refine Xi ?_ ?_<;>try intro ht)|refine VD ?_ ?_|exact Xx|fail))<;>try with_reducible intro K hK)
      all_goals try (exfalso;omega)
      refine hel _ _ rfl ?_;clear hnl hel Ql
      repeat (first|refine Xu ?_)
      ((try revert hK K);(repeat' (first|refine Vb X0 ?_|(refine V2 X0 ?_ ?_<;>try with_reducible intro hb)|(refine Xi ?_ ?_<;>try intro ht)|refine VD ?_ ?_|exact Xx|fail))<;>try with_reducible intro K hK)
      rw[← hr]
      exact RetOK_sel [] true (by decide) trivial (by decide) (by decide) (ArgR.tup2 (.pure rfl) (.pure rfl))
theorem ejRef_lenB (m:Mdl) (cl o:Int):∀ (f c:Nat) (nx:List Int),(ejRef m cl o f c nx).length=nx.length
  | 0,_,_=>rfl
  | f+1,c,nx=>by rw[ejRef,ejRef_lenB m cl o f];split<;>simp
theorem ejCts_lenB (n:Nat) (cl:Int):∀ (l:List Ct) (nx r:List Int),ejCts n cl l nx=some r→r.length=nx.length
  | [],nx,r,h=>by cases h;rfl
  | c::l,nx,r,h=>by
    rw[ejCts] at h
    cases h1:ejOne n c cl (nnL nx+1) nx with
    | none=>rw[h1] at h;cases h
    | some x =>
      rw[h1] at h
      rw[ejCts_lenB n cl l x r h,ejOne_len _ _ _ h1]
theorem ejV_lenB {m:Mdl} {plan:List Int} {cl o:Int} {r:List Int × List Int} (h:ejV m plan cl o=some r):r.1.length≤plan.length:=by
  unfold ejV at h
  split at h
  · rw[Option.map_eq_some_iff] at h
    obtain ⟨nx,h1,rfl⟩:=h
    dsimp only
    rw[ejCts_lenB _ _ _ _ _ h1,ejRef_lenB,List.length_set]
    exact Nat.le_refl _
  · cases h
theorem step_lenB (m:Mdl) (s:BS) (n:Nat) (h1:s.plan.length≤n) (h2:s.best.length≤n):(bldStep m s).plan.length≤n∧(bldStep m s).best.length≤n:=by
  unfold bldStep
  split
  · exact⟨h1,h2⟩
  · dsimp only
    have:(bldOut m ((ejV m s.plan (nextC s.plan s.aside 0) (bldPick m s.plan s.u (nextC s.plan s.aside 0) (m.cls.getD (nextC s.plan s.aside 0).toNat default).length 0 (-1,0,0)).1).getD ([],[])).2 ((ejV m s.plan (nextC s.plan s.aside 0) (bldPick m s.plan s.u (nextC s.plan s.aside 0) (m.cls.getD (nextC s.plan s.aside 0).toNat default).length 0 (-1,0,0)).1).getD ([],[])).1).length≤n:=by
      rw[bldOut_len]
      cases h:ejV m s.plan (nextC s.plan s.aside 0) (bldPick m s.plan s.u (nextC s.plan s.aside 0) (m.cls.getD (nextC s.plan s.aside 0).toNat default).length 0 (-1,0,0)).1 with
      | none=>exact Nat.zero_le _
      | some r=>exact Nat.le_trans (ejV_lenB h) h1
    refine⟨this,?_⟩
    split
    · exact this
    · exact h2
theorem bldR_lenB (m:Mdl) (n:Nat):∀ (f:Nat) (s:BS),s.plan.length≤n→s.best.length≤n→(bldR m f s).length≤n
  | 0,s,_,h2=>h2
  | f+1,s,h1,h2=>by
    rw[bldR]
    split
    · exact h2
    · have:=step_lenB m s n h1 h2
      exact bldR_lenB m n f _ this.1 this.2
theorem buildT_len (m:Mdl) (n:Int):(buildT m n).1.length≤m.cls.length:=by
  unfold buildT
  split
  · exact Nat.zero_le _
  split
  · exact Nat.zero_le _
  · have:=(satV_pm m).len
    exact bldR_lenB m _ _ _ (by unfold bld0;dsimp only;omega) (by unfold bld0;dsimp only;omega)
theorem builds_law (tape:List Int) (rounds:Int):Holds Tryz.prog 3 [.tree 1 (ints tape),.lit (.int .i64 rounds)] [] (.lit (.bool true)) []:=by
  refine Holds.of_body' (fn:=Tryz.f3) 54 0 [.tmp 4] Tryz.func3 rfl rfl rfl rfl rfl (by simp) ?_
  repeat' (first|((fail_if_success (first|refine W_at 3 ?_|refine W_atE 3 ?_));refine Xq X0 ?_;intro K hK)|refine Xo X0 ?_|refine Xc (light_ok _) ?_|refine Xc (awake26_ok) ?_|(refine hK _ ?_;clear hK K)|(refine Xg X0 ?_ ?_<;>try intro hb)|(refine Xi ?_ ?_<;>try intro ht)|refine XY ?_|refine Xd ?_ ?_|exact Xx|fail)
  · exact RetOK_pure' rfl rfl
  have hL:tape.length<1000000:=by omega
  have hsm:=some26_ok tape 0 (Nat.zero_le _) hL
  refine W_region_ce 2 (by decide) _ rfl ?_
  intro K hK
  simp (disch:=omega) only[Ac,↓Pc,simprocAttr,List.take,List.drop]
  (refine Xn [] (roll_ok tape) ?_;simp (disch:=omega) only[Ac,↓Pc,simprocAttr])
  unfold dice at hsm
  refine⟨rfl,(show callKR Tryz.prog 9 [.ptr 0 0 0] (some 18) _ _ from ?_)⟩
  refine callKR_sel [0] hsm (by decide) ⟨rfl,trivial⟩ ⟨.eq rfl,trivial⟩ ?_
  rintro r os ⟨m,k,hm,hk,rfl,rfl⟩
  simp (disch:=omega) only[Ac,↓Pc,simprocAttr]
  refine hK _ ?_;clear hK K
  repeat (first|refine Xu ?_)
  refine W_turn (σ':=⟨slots [(1,.lit (.int .i64 rounds)),(5,.ptr 0 0 0)],[.var (eMdl m)]⟩) (Xs false [1] X0) ?_
  have hmb:=hm.mb
  have hfew:=hm.few
  clear hsm hk k hL
  have hmd:=mod_ok rounds 9 (by unfold In64;omega)
  generalize modI rounds 9=r2 at *
  repeat' (first|((fail_if_success (first|refine W_at 5 ?_|refine W_atE 5 ?_));refine Xq X0 ?_;intro K hK)|refine Xo X0 ?_|refine Xc (hmd) ?_|(refine hK _ ?_;clear hK K)|(refine Xg X0 ?_ ?_<;>try intro hb)|(refine Xi ?_ ?_<;>try intro ht)|refine Xy ?_|refine Xd ?_ ?_|exact Xx|fail)
  refine W_turn (σ':=⟨slots [(5,.ptr 0 0 0),(25,.tree 1 (ints [min rounds (-1),r2,max rounds 65537])),(26,.lit (.int .i64 3)),(27,.lit (.int .i64 0))],[.var (eMdl m)]⟩) (Xs true [0] X0) ?_
  generalize hqs:[min rounds (-1),r2,max rounds 65537]=qs
  have hqsl:qs.length=3:=by rw[← hqs];rfl
  refine W_loopS (fun i:Nat=>(⟨slots [(5,.ptr 0 0 0),(25,.tree 1 (ints qs)),(26,.lit (.int .i64 3)),(27,.lit (.int .i64 i))],[.var (eMdl m)]⟩:St)) (fun i=>i≤3) (fun i=>3 - i) 0 (Nat.zero_le _) (Xv X0) ?_
  rintro i hi Ql hnl hel
  by_cases hi':i<3
  · generalize hpp:qs.getD i 0=p at *
    have h1:=Build_ok m hmb p
    have h2:=rBuild_ok m hmb p
    have hlen:=buildT_len m p
    generalize buildT m p=dv at *
    have h3:=same_ok dv.1 dv.1 (by omega)
    rw[decide_eq_true rfl] at h3
    ((try revert hK K);(repeat' (first|refine Vc (X5 @hpp @bne_self_eq_false.{0} @decide_true @Bool.not_true @beq_self_eq_true.{0}) (X3 h1 h2 h3) ?_|(refine V2 (X5 @hpp @bne_self_eq_false.{0} @decide_true @Bool.not_true @beq_self_eq_true.{0}) ?_ ?_<;>try with_reducible intro hb)|(refine Xi ?_ ?_<;>try intro ht)|refine VD ?_ ?_|exact Xx|fail))<;>try with_reducible intro K hK)
    exact hnl _ (i+1) (by omega) (by omega) (Xs false [0] X0)
  · ((try revert hK K);(repeat' (first|refine Va X0 ?_|(refine V2 X0 ?_ ?_<;>try with_reducible intro hb)|(refine Xi ?_ ?_<;>try intro ht)|refine VD ?_ ?_|exact Xx|fail))<;>try with_reducible intro K hK)
    all_goals try (exfalso;omega)
    refine hel _ _ rfl ?_;clear hnl hel Ql
    repeat (first|refine Xu ?_)
    ((try revert hK K);(repeat' (first|refine Vd X0 awake26_ok ?_|(refine V2 X0 ?_ ?_<;>try with_reducible intro hb)|(refine Xi ?_ ?_<;>try intro ht)|refine VD ?_ ?_|exact Xx|fail))<;>try with_reducible intro K hK)
    exact RetOK_pure' rfl rfl
end T

