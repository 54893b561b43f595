import Derived.Test.YtmhloinjpcabcaaGreatX39
import Derived.Test.YtmhloinjpcabcaaGreatX38
import Derived.Test.YtmhloinjpcabcaaGreatX37
import Derived.Test.YtmhloinjpcabcaaGreatX45
set_option linter.unusedVariables false
set_option linter.unusedSimpArgs false
set_option linter.unnecessarySimpa false
set_option linter.unusedSectionVars false
set_option maxHeartbeats 64000000
set_option maxRecDepth 20000
open Go Go.Am
open Go Go.Am Go.Proofs
open Nat (reduceEqDiff reduceAdd reduceLeDiff reduceMul)
open Int (reduceNeg reduceLE reduceToNat)
namespace T
def fL (m:Mdl) (i:Nat):List Int:=(openV m).take i++List.replicate (m.cls.length - i) 0
theorem openV_len (m:Mdl):(openV m).length=m.cls.length:=by unfold openV;simp
theorem fL_len {m:Mdl} {i:Nat} (h:i≤m.cls.length):(fL m i).length=m.cls.length:=by
  unfold fL
  rw[List.length_append,List.length_take,openV_len,List.length_replicate];omega
theorem fL_zero (m:Mdl):fL m 0=List.replicate m.cls.length 0:=by unfold fL;simp
theorem fL_full (m:Mdl):fL m m.cls.length=openV m:=by
  unfold fL
  rw[List.take_of_length_le (by rw[openV_len];exact Nat.le_refl _)];simp
theorem fL_split {m:Mdl} {i:Nat} (h:i<m.cls.length):fL m i=(openV m).take i++0::List.replicate (m.cls.length - (i+1)) 0:=by
  unfold fL
  rw[show m.cls.length - i=(m.cls.length - (i+1))+1 by omega,List.replicate_succ]
theorem fL_set0 {m:Mdl} {i:Nat} (h:i<m.cls.length):(fL m i).set i 0=fL m i:=by
  rw[fL_split h]
  have hl:((openV m).take i).length=i:=by rw[List.length_take,openV_len];omega
  rw[List.set_append_right _ _ (by omega),hl,Nat.sub_self];rfl
theorem fL_next {m:Mdl} {i:Nat} (h:i<m.cls.length):(fL m i).set i (((m.cls.getD i default).countP freeB:Nat):Int)=fL m (i+1):=by
  rw[fL_split h]
  have hl:((openV m).take i).length=i:=by rw[List.length_take,openV_len];omega
  rw[List.set_append_right _ _ (by omega),hl,Nat.sub_self,List.set_cons_zero]
  unfold fL
  rw[List.take_add_one,List.append_assoc]
  congr 1
  have:(openV m)[i]?=some (((m.cls.getD i default).countP freeB:Nat):Int):=by
    unfold openV
    rw[List.getElem?_map,List.getD_eq_getElem?_getD,List.getElem?_eq_getElem h];rfl
  rw[this];rfl
theorem cnt_take {l:List Opt} {k:Nat} (h:k<l.length):(l.take (k+1)).countP freeB=(l.take k).countP freeB+if freeB (l.getD k default)=true then 1 else 0:=by
  rw[List.take_add_one,List.countP_append,List.getD_eq_getElem?_getD,List.getElem?_eq_getElem h,Option.getD_some,Option.toList_some,List.countP_singleton]
theorem openV_rng {m:Mdl} (h:∀ l∈m.cls,l.length≤24) (k:Nat):0≤(openV m).getD k 0∧(openV m).getD k 0≤24:=by
  unfold openV
  rw[List.getD_eq_getElem?_getD,List.getElem?_map]
  cases hk:m.cls[k]? with
  | none=>exact⟨by decide,by decide⟩
  | some l =>
    have h1:=h l (List.mem_of_getElem? hk)
    have h2:=List.countP_le_length (p:=freeB) (l:=l)
    simp only[Option.map_some,Option.getD_some]
    omega
theorem ints_setget {f:List Int} {i:Nat} (h:i<f.length) (c:Int):(ints (f.set i c))[i]?=some [.lit (.int .i64 c)]:=by
  unfold ints
  rw[List.getElem?_map,List.getElem?_set,if_pos rfl,if_pos h];rfl
theorem ints_tk (xs:List Int) (q:Nat):(ints xs).take q=ints (xs.take q):=by unfold ints;rw[List.map_take]
theorem ints_dr (xs:List Int) (q:Nat):(ints xs).drop q=ints (xs.drop q):=by unfold ints;rw[List.map_drop]
def ordT (m:Mdl):List Int × Int:=if validV m≠0 then ([],validV m) else (orderV m,0)
theorem insR_len (lt:Int→Int→Bool) (x:Int) (l:List Int):(insR lt x l).length=l.length+1:=by rw[(insR_perm lt x l).length_eq];rfl
def iL (n i:Nat):List Int:=(idL n).take i++List.replicate (n - i) 0
theorem iL_len {n i:Nat} (h:i≤n):(iL n i).length=n:=by
  unfold iL
  rw[List.length_append,List.length_take,idL_len,List.length_replicate];omega
theorem iL_zero (n:Nat):iL n 0=List.replicate n 0:=by unfold iL;simp
theorem iL_full (n:Nat):iL n n=idL n:=by
  unfold iL
  rw[List.take_of_length_le (by rw[idL_len];exact Nat.le_refl _)];simp
theorem iL_next {n i:Nat} (h:i<n):(iL n i).set i (i:Int)=iL n (i+1):=by
  unfold iL
  have hl:((idL n).take i).length=i:=by rw[List.length_take,idL_len];omega
  rw[List.set_append_right _ _ (by omega),hl,Nat.sub_self,show n - i=(n - (i+1))+1 by omega,List.replicate_succ,List.set_cons_zero,List.take_add_one,List.append_assoc]
  congr 1
  have:(idL n)[i]?=some (i:Int):=by
    unfold idL
    rw[List.getElem?_map,List.getElem?_range h];rfl
  rw[this];rfl
theorem Order_ok (m:Mdl) (hmB:MB m) (hfew:m.cls.length≤12):Holds Tryz.prog 17 [.agg (eMdl m)] [] (.tup [.tree 1 (ints (ordT m).1),.lit (.int .i64 (ordT m).2)]) []:=by
  generalize hres:ordT m=res
  unfold ordT at hres
  refine Holds.of_body' (fn:=Tryz.f17) 59 0 [.tmp 2,.tmp 3] Tryz.func17 rfl rfl rfl rfl rfl (by simp) ?_
  repeat' (first|((fail_if_success (first|refine W_at 4 ?_|refine W_atE 4 ?_));refine Xq X0 ?_;intro K hK)|refine Xo X0 ?_|refine Xc (valid_ok m hmB) ?_|(refine hK _ ?_;clear hK K)|(refine Xg X0 ?_ ?_<;>try intro hb)|(refine Xi ?_ ?_<;>try intro ht)|refine XY ?_|refine Xd ?_ ?_|exact Xx|fail)
  · rw[if_pos ht] at hres
    rw[← hres]
    exact RetOK_sel [] true (by decide) trivial (by decide) (by decide) (ArgR.tup2 ArgR.nil (.pure rfl))
  rw[if_neg (by omega)] at hres
  have hm:=valid_iff.1 (by omega)
  have hc24:=hm.cls
  have hnl0:=nbV_len m
  have hol:=openV_len m
  have hnbr:=neighbours_ok m hm
  rw[← order_eq m] at hres
  generalize hnb:nbV m=nb at *
  obtain ⟨n,hcn⟩ :∃n,m.cls.length=n:=⟨_,rfl⟩
  repeat' (first|((fail_if_success (first|refine W_at 5 ?_|refine W_atE 5 ?_));refine Xq @hcn ?_;intro K hK)|refine Xo @hcn ?_|refine Xc (hnbr) ?_|(refine hK _ ?_;clear hK K)|(refine Xg @hcn ?_ ?_<;>try intro hb)|(refine Xi ?_ ?_<;>try intro ht)|refine XY ?_|refine Xd ?_ ?_|exact Xx|fail)
  all_goals try (exfalso;omega)
  refine W_turn (Turns.frzP 5 1 (cells:=[.tree 1 (ints nb)]) (by rfl) (by simp only[Kc,simprocAttr]) (by simp)) ?_
  refine W_turn (σ':=⟨slots [(1,.ptr 0 0 0),(5,.taddr [.tree 1 (ints nb)])],[.var (eMdl m)]⟩) (Xs false [0] X0) ?_
  refine unSq ?_;intro Q hn he
  refine join_here ⟨slots [(1,.ptr 0 0 0),(5,.taddr [.tree 1 (ints nb)]),(6,.ref 1 1 0 n),(7,.ptr 2 0 0)],[.var (eMdl m),.arr 1 (ints (List.replicate n 0)),.var [.ref 3 1 0 n],.arr 1 (ints (List.replicate n 0))]⟩ hn ?_ (fun key=>?_)
  rotate_left
  · refine W_draw [] (.take 0 (.take 1 (.take 2 (.take 4 (.take 5 (.take 6 (.three 3 (.both 7 (.take 8 (.take 9 (.take 10 .nil))) 8 (.take 7 (.take 9 (.take 10 .nil)))) 7 (.both 3 (.take 8 (.take 9 (.take 10 .nil))) 8 (.take 3 (.take 9 (.take 10 .nil)))) 8 (.both 3 (.take 7 (.take 9 (.take 10 .nil))) 7 (.take 3 (.take 9 (.take 10 .nil))))))))))) rfl (by decide) (by decide +kernel) ?_
    simp (disch:=omega) only[Ac,↓Pc,simprocAttr,Pw,hcn]
    repeat' (first|with_reducible refine And.intro ?_ ?_|omega|with_reducible rfl)
    all_goals refine key _ ?_
    · exact Xs false [0,1,3,2] X0
    · exact Xs false [0,1,2,3] X0
    · exact Xs false [0,2,3,1] X0
    · exact Xs false [0,3,2,1] X0
    · exact Xs false [0,2,1,3] X0
    · exact Xs false [0,3,1,2] X0
  (try clear hn;try clear he)
  ((try revert hK K);(repeat' (first|refine Vb @hcn ?_|(refine V2 @hcn ?_ ?_<;>try with_reducible intro hb)|(refine Xi ?_ ?_<;>try intro ht)|refine VD ?_ ?_|exact Xx|fail))<;>try with_reducible intro K hK)
  refine W_loopS (fun i:Nat=>(⟨slots [(1,.ptr 0 0 0),(5,.taddr [.tree 1 (ints nb)]),(6,.ref 1 1 0 n),(7,.ptr 2 0 0),(28,.tree 1 (rowsOf eCls m.cls)),(29,.lit (.int .i64 n)),(30,.lit (.int .i64 i))],[.var (eMdl m),.arr 1 (ints (iL n i)),.var [.ref 3 1 0 n],.arr 1 (ints (fL m i))]⟩:St)) (fun i=>i≤n) (fun i=>n - i) 0 (Nat.zero_le _) (by rw[fL_zero,iL_zero,hcn];exact Xv X0) ?_
  rintro i hi Ql hnl hel
  by_cases hi':i<n
  · have hl24:=hm.opt _ (getD_mem (l:=m.cls) (i:=i) (d:=default) (by omega))
    have hch:=hm.mb.ch _ (getD_mem (l:=m.cls) (i:=i) (d:=default) (by omega))
    have hfl:=fL_len (m:=m) (i:=i) (by omega)
    have hf0:=fL_set0 (m:=m) (i:=i) (by omega)
    have hf1:=fL_next (m:=m) (i:=i) (by omega)
    have hfg:=ints_setget (f:=fL m i) (i:=i) (by omega)
    have hil:=iL_len (n:=n) (i:=i) (by omega)
    have hin:=iL_next (n:=n) (i:=i) (by omega)
    generalize hll:m.cls.getD i default=l at *
    generalize fL m i=f at *
    generalize iL n i=g at *
    ((try revert hK K);(repeat' (first|refine Va (X5 @hll @eCls.eq_1 @hil @hin @ints_set) ?_|(refine V2 (X5 @hll @eCls.eq_1 @hil @hin @ints_set) ?_ ?_<;>try with_reducible intro hb)|(refine Xi ?_ ?_<;>try intro ht)|refine VD ?_ ?_|exact Xx|fail))<;>try with_reducible intro K hK)
    all_goals try (exfalso;omega)
    refine W_loopS (fun k:Nat=>(⟨slots [(1,.ptr 0 0 0),(5,.taddr [.tree 1 (ints nb)]),(6,.ref 1 1 0 n),(7,.ptr 2 0 0),(8,.lit (.int .i64 i)),(28,.tree 1 (rowsOf eCls m.cls)),(29,.lit (.int .i64 n)),(30,.lit (.int .i64 i)),(39,.tree 6 (rowsOf eOpt l)),(40,.lit (.int .i64 l.length)),(41,.lit (.int .i64 k))],[.var (eMdl m),.arr 1 (ints (iL n (i+1))),.var [.ref 3 1 0 n],.arr 1 (ints (f.set i (((l.take k).countP freeB:Nat):Int)))]⟩:St)) (fun k=>k≤l.length) (fun k=>l.length - k) 0 (Nat.zero_le _) (by rw[List.take_zero,List.countP_nil,Int.natCast_zero,hf0];exact Xv X0) ?_
    rintro k hk Ql2 hnl2 hel2
    by_cases hk':k<l.length
    · have hct:=cnt_take hk'
      have hle:=List.countP_le_length (p:=freeB) (l:=l.take k)
      rw[List.length_take] at hle
      have hfr:=wFree_ok (l.getD k default) (hch _ (getD_mem hk'))
      generalize hoo:l.getD k default=o at *
      generalize (l.take k).countP freeB=ct at *
      generalize freeB o=fb at *
      cases fb
      · rw[if_neg (by decide),Nat.add_zero] at hct
        ((try revert hK K);(repeat' (first|refine Vc (X2 @hoo @eOpt.eq_1) hfr ?_|(refine V2 (X2 @hoo @eOpt.eq_1) ?_ ?_<;>try with_reducible intro hb)|(refine Xi ?_ ?_<;>try intro ht)|refine VD ?_ ?_|exact Xx|fail))<;>try with_reducible intro K hK)
        all_goals try (exfalso;omega)
        exact hnl2 _ (k+1) (by omega) (by omega) (by rw[hct];exact Xs false [0,1,2,3] X0)
      · rw[if_pos rfl] at hct
        ((try revert hK K);(repeat' (first|refine Vc (X5 @hoo @eOpt.eq_1 @hfl @hfg (X3 @hcn @ints_set @List.set_set.{0})) hfr ?_|(refine V2 (X5 @hoo @eOpt.eq_1 @hfl @hfg (X3 @hcn @ints_set @List.set_set.{0})) ?_ ?_<;>try with_reducible intro hb)|(refine Xi ?_ ?_<;>try intro ht)|refine VD ?_ ?_|exact Xx|fail))<;>try with_reducible intro K hK)
        all_goals try (exfalso;omega)
        exact hnl2 _ (k+1) (by omega) (by omega) (by rw[hct,show (((ct+1:Nat)):Int)=(ct:Int)+1 from rfl];exact Xs false [0,1,2,3] X0)
    · rw[show k=l.length by omega,List.take_of_length_le (Nat.le_refl _),hf1]
      ((try revert hK K);(repeat' (first|refine Va X0 ?_|(refine V2 X0 ?_ ?_<;>try with_reducible intro hb)|(refine Xi ?_ ?_<;>try intro ht)|refine VD ?_ ?_|exact Xx|fail))<;>try with_reducible intro K hK)
      all_goals try (exfalso;omega)
      refine hel2 _ _ rfl ?_
      clear hnl2 hel2
      repeat (first|refine Xu ?_)
      ((try revert hK K);(repeat' (first|refine Va X0 ?_|(refine V2 X0 ?_ ?_<;>try with_reducible intro hb)|(refine Xi ?_ ?_<;>try intro ht)|refine VD ?_ ?_|exact Xx|fail))<;>try with_reducible intro K hK)
      exact hnl _ (i+1) (by omega) (by omega) (Xv X0)
  · obtain rfl:i=n:=by omega
    rw[iL_full,show fL m i=openV m by rw[← hcn,fL_full]]
    ((try revert hK K);(repeat' (first|refine Va X0 ?_|(refine V2 X0 ?_ ?_<;>try with_reducible intro hb)|(refine Xi ?_ ?_<;>try intro ht)|refine VD ?_ ?_|exact Xx|fail))<;>try with_reducible intro K hK)
    all_goals try (exfalso;omega)
    refine hel _ _ rfl ?_;clear hnl hel Ql
    repeat (first|refine Xu ?_)
    clear hi hi'
    have hidl:=idL_len i
    have hids:∀ x∈idL i,0≤x∧x<(openV m).length:=fun x hx=>by
      unfold idL at hx
      obtain ⟨k,hk,rfl⟩:=List.mem_map.1 hx
      have:=List.mem_range.1 hk
      omega
    rw[hcn] at hres
    generalize openV m=op at *
    have hs:=sort_ok op nb (idL i) (by omega) hids (by omega)
    have hsl:=sortR_len (ltP op nb) (idL i) []
    rw[hidl] at hs hsl
    generalize sortR (ltP op nb) (idL i) []=R at *
    generalize idL i=xs at *
    refine W_turn (Turns.frzV 3 2 0 1 (rows:=ints op) rfl rfl (by rw[ints_length,show op.length=i by omega];rfl) (ints_wid _) (fun row h v hv=>by
      unfold ints at h
      obtain ⟨x,_,rfl⟩:=List.mem_map.1 h
      exact .inl ⟨_,List.mem_singleton.1 hv⟩)) ?_
    refine W_turn (Turns.frzP 7 2 (cells:=[.tree 1 (ints op)]) (by rfl) (by simp only[Kc,simprocAttr]) (by simp)) ?_
    refine W_turn (σ':=⟨slots [(5,.taddr [.tree 1 (ints nb)]),(6,.ref 0 1 0 i),(7,.taddr [.tree 1 (ints op)])],[.arr 1 (ints xs)]⟩) (Xs false [1] X0) ?_
    ((try revert hK K);(repeat' (first|refine Vb X0 ?_|(refine V2 X0 ?_ ?_<;>try with_reducible intro hb)|(refine Xi ?_ ?_<;>try intro ht)|refine VD ?_ ?_|exact Xx|fail))<;>try with_reducible intro K hK)
    refine callK_all hs (Nat.le_refl _) ?_
    ((try revert hK K);(repeat' (first|refine Vb X0 ?_|(refine V2 X0 ?_ ?_<;>try with_reducible intro hb)|(refine Xi ?_ ?_<;>try intro ht)|refine VD ?_ ?_|exact Xx|fail))<;>try with_reducible intro K hK)
    rw[← hres]
    exact RetOK_sel [] true (by decide) trivial (by decide) (by decide) (ArgR.tup2 (ArgR.frz (rows:=ints R) rfl (ints_wid _) (by rw[ints_length,hsl];simp) (not_kept (by simp)) (ints_frz _)) (.pure rfl))
theorem rOrder_ok (m:Mdl) (hmB:MB m):Holds Tryz.prog 18 [.agg (eMdl m)] [] (.tup [.tree 1 (ints (ordT m).1),.lit (.int .i64 (ordT m).2)]) []:=by
  have hn1:=rNeighbours_ok m hmB
  unfold nbT at hn1
  generalize hres:ordT m=res
  unfold ordT at hres
  by_cases hv:validV m≠0
  · rw[if_pos hv] at hn1 hres
    refine Holds.of_body' (fn:=Tryz.f18) 125 0 [.tmp 2,.tmp 3] Tryz.func18 rfl rfl rfl rfl rfl (by simp) ?_
    ((try revert hK K);(repeat' (first|refine Vd X0 hn1 ?_|(refine V2 X0 ?_ ?_<;>try with_reducible intro hb)|(refine Xi ?_ ?_<;>try intro ht)|refine VD ?_ ?_|exact Xx|fail))<;>try with_reducible intro K hK)
    all_goals try (exfalso;omega)
    rw[← hres]
    exact RetOK_sel [] true (by decide) trivial (by decide) (by decide) (ArgR.tup2 ArgR.nil (.pure rfl))
  rw[if_neg hv] at hn1 hres
  have hm:=valid_iff.1 (by omega:validV m=0)
  have hc24:=hm.cls
  have hnl0:=nbV_len m
  have hoV:=openV_rng (m:=m) hm.opt
  have hol:=openV_len m
  unfold orderV at hres
  generalize hnb:nbV m=nb at *
  refine Holds.of_body' (fn:=Tryz.f18) 125 0 [.tmp 2,.tmp 3] Tryz.func18 rfl rfl rfl rfl rfl (by simp) ?_
  ((try revert hK K);(repeat' (first|refine Vd X0 hn1 ?_|(refine V2 X0 ?_ ?_<;>try with_reducible intro hb)|(refine Xi ?_ ?_<;>try intro ht)|refine VD ?_ ?_|exact Xx|fail))<;>try with_reducible intro K hK)
  all_goals try (exfalso;omega)
  refine W_loopS (fun i:Nat=>(⟨slots [(1,.ptr 0 0 0),(4,.tree 1 (ints nb)),(6,.ref 1 1 0 nb.length),(7,.lit (.int .i64 i))],[.var (eMdl m),.arr 1 (ints (fL m i))]⟩:St)) (fun i=>i≤nb.length) (fun i=>nb.length - i) 0 (Nat.zero_le _) (by rw[fL_zero,← hnl0];exact Xv X0) ?_
  rintro i hi Ql hnl hel
  by_cases hi':i<nb.length
  · have hl24:=hm.opt _ (getD_mem (l:=m.cls) (i:=i) (d:=default) (by omega))
    have hch:=hm.mb.ch _ (getD_mem (l:=m.cls) (i:=i) (d:=default) (by omega))
    have hfl:=fL_len (m:=m) (i:=i) (by omega)
    have hf0:=fL_set0 (m:=m) (i:=i) (by omega)
    have hf1:=fL_next (m:=m) (i:=i) (by omega)
    have hfg:=ints_setget (f:=fL m i) (i:=i) (by omega)
    generalize hll:m.cls.getD i default=l at *
    generalize fL m i=f at *
    ((try revert hK K);(repeat' (first|refine Va X0 ?_|(refine V2 X0 ?_ ?_<;>try with_reducible intro hb)|(refine Xi ?_ ?_<;>try intro ht)|refine VD ?_ ?_|exact Xx|fail))<;>try with_reducible intro K hK)
    all_goals try (exfalso;omega)
    refine W_loopS (fun k:Nat=>(⟨slots [(1,.ptr 0 0 0),(4,.tree 1 (ints nb)),(6,.ref 1 1 0 nb.length),(7,.lit (.int .i64 i)),(8,.lit (.int .i64 k))],[.var (eMdl m),.arr 1 (ints (f.set i (((l.take k).countP freeB:Nat):Int)))]⟩:St)) (fun k=>k≤l.length) (fun k=>l.length - k) 0 (Nat.zero_le _) (by rw[List.take_zero,List.countP_nil,Int.natCast_zero,hf0];exact Xv X0) ?_
    rintro k hk Ql2 hnl2 hel2
    by_cases hk':k<l.length
    · have hct:=cnt_take hk'
      have hle:=List.countP_le_length (p:=freeB) (l:=l.take k)
      rw[List.length_take] at hle
      have hfr:=rFree_ok (l.getD k default) (hch _ (getD_mem hk'))
      generalize hoo:l.getD k default=o at *
      generalize (l.take k).countP freeB=ct at *
      generalize freeB o=fb at *
      cases fb
      · rw[if_neg (by decide),Nat.add_zero] at hct
        ((try revert hK K);(repeat' (first|refine Vc (X3 @hll @eCls.eq_1 @hoo) hfr ?_|(refine V2 (X3 @hll @eCls.eq_1 @hoo) ?_ ?_<;>try with_reducible intro hb)|(refine Xi ?_ ?_<;>try intro ht)|refine VD ?_ ?_|exact Xx|fail))<;>try with_reducible intro K hK)
        all_goals try (exfalso;omega)
        exact hnl2 _ (k+1) (by omega) (by omega) (by rw[hct];exact Xv X0)
      · rw[if_pos rfl] at hct
        ((try revert hK K);(repeat' (first|refine Vc (X5 @hll @eCls.eq_1 @hoo @hfl (X3 @hfg @ints_set @List.set_set.{0})) hfr ?_|(refine V2 (X5 @hll @eCls.eq_1 @hoo @hfl (X3 @hfg @ints_set @List.set_set.{0})) ?_ ?_<;>try with_reducible intro hb)|(refine Xi ?_ ?_<;>try intro ht)|refine VD ?_ ?_|exact Xx|fail))<;>try with_reducible intro K hK)
        all_goals try (exfalso;omega)
        exact hnl2 _ (k+1) (by omega) (by omega) (by rw[hct,show (((ct+1:Nat)):Int)=(ct:Int)+1 from rfl];exact Xv X0)
    · rw[show k=l.length by omega,List.take_of_length_le (Nat.le_refl _),hf1]
      ((try revert hK K);(repeat' (first|refine Va (X2 @hll @eCls.eq_1) ?_|(refine V2 (X2 @hll @eCls.eq_1) ?_ ?_<;>try with_reducible intro hb)|(refine Xi ?_ ?_<;>try intro ht)|refine VD ?_ ?_|exact Xx|fail))<;>try with_reducible intro K hK)
      all_goals try (exfalso;omega)
      refine hel2 _ _ rfl ?_
      clear hnl2 hel2
      repeat (first|refine Xu ?_)
      ((try revert hK K);(repeat' (first|refine Va X0 ?_|(refine V2 X0 ?_ ?_<;>try with_reducible intro hb)|(refine Xi ?_ ?_<;>try intro ht)|refine VD ?_ ?_|exact Xx|fail))<;>try with_reducible intro K hK)
      exact hnl _ (i+1) (by omega) (by omega) (Xv X0)
  · obtain rfl:i=nb.length:=by omega
    rw[show fL m nb.length=openV m by rw[hnl0,fL_full]]
    ((try revert hK K);(repeat' (first|refine Va X0 ?_|(refine V2 X0 ?_ ?_<;>try with_reducible intro hb)|(refine Xi ?_ ?_<;>try intro ht)|refine VD ?_ ?_|exact Xx|fail))<;>try with_reducible intro K hK)
    all_goals try (exfalso;omega)
    refine hel _ _ rfl ?_;clear hnl hel Ql
    repeat (first|refine Xu ?_)
    generalize openV m=op at *
    clear hi hi' hoV
    generalize hn:nb.length=n at *
    have hop:op.length=n:=by omega
    (try clear hnb;clear hol)
    rw[← hnl0] at hres
    generalize hR:sortR (ltR op nb) (idL n) []=R at *
    ((try revert hK K);(repeat' (first|refine Vb X0 ?_|(refine V2 X0 ?_ ?_<;>try with_reducible intro hb)|(refine Xi ?_ ?_<;>try intro ht)|refine VD ?_ ?_|exact Xx|fail))<;>try with_reducible intro K hK)
    refine W_turn (Turns.nil 9 1 (by simp only[Kc,simprocAttr]) (by decide)) ?_
    refine W_loopS (fun z:Nat × List Int=>(⟨slots [(1,.ptr 0 0 0),(4,.tree 1 (ints nb)),(6,.ref 1 1 0 n),(9,.ref 2 1 0 z.2.length),(10,.lit (.int .i64 z.1))],[.var (eMdl m),.arr 1 (ints op),.arr 1 (ints z.2)]⟩:St))
      (fun z=>z.1≤n∧z.2.length=z.1∧(∀ x∈z.2,0≤x∧x<n)∧sortR (ltR op nb) ((idL n).drop z.1) z.2=R) (fun z=>n - z.1) (0,[]) ⟨Nat.zero_le _,rfl,by simp,hR⟩ (Xv X0) ?_
    clear hR
    rintro ⟨i,out⟩ ⟨hi,hol,hin,hr⟩ Ql hnl hel
    dsimp only at hi hol hin hr ⊢
    by_cases hi':i<n
    · rw[getD_drop0 (idL n) i 0 (by rw[idL_len];exact hi'),idL_get hi',sortR] at hr
      have hil:=insR_len (ltR op nb) i out
      have him:=fun y=>insR_mem (lt:=ltR op nb) (x:=i) (y:=y) (l:=out)
      unfold insR at hil him hr
      have hple:=posR_le (ltR op nb) i out out.length
      generalize hq:posR (ltR op nb) i out out.length=q at *
      ((try revert hK K);(repeat' (first|refine Va @hn ?_|(refine V2 @hn ?_ ?_<;>try with_reducible intro hb)|(refine Xi ?_ ?_<;>try intro ht)|refine VD ?_ ?_|exact Xx|fail))<;>try with_reducible intro K hK)
      all_goals try (exfalso;omega)
      refine W_loopS (fun z:Nat × Int=>(⟨slots [(1,.ptr 0 0 0),(4,.tree 1 (ints nb)),(6,.ref 1 1 0 n),(9,.ref 2 1 0 out.length),(10,.lit (.int .i64 i)),(11,.lit (.int .i64 z.2))],[.var (eMdl m),.arr 1 (ints op),.arr 1 (ints out)]⟩:St))
        (fun z=>z.1≤out.length∧z.2=z.1∧posR (ltR op nb) i out z.1=q) (fun z=>z.1) (out.length,(out.length:Int)) ⟨Nat.le_refl _,rfl,hq⟩ (Xv X0) ?_
      clear hq
      rintro ⟨k,x⟩ ⟨hk,hx,hrk⟩ Ql2 hnl2 hel2
      dsimp only at hk hx hrk ⊢
      by_cases hgo:0<k∧ltR op nb i (out.getD (k - 1) 0)=true
      · obtain ⟨k,rfl⟩ :∃j,k=j+1:=⟨k - 1,by omega⟩
        rw[Nat.add_sub_cancel] at hgo
        rw[posR,if_pos hgo.2] at hrk
        have hb:=hin _ (getD_mem (l:=out) (i:=k) (d:=0) (by omega))
        have hx1:x - 1=(k:Int):=by omega
        replace hgo:=hgo.2
        unfold ltR at hgo
        replace hgo:=of_decide_eq_true hgo
        rw[Int.toNat_natCast] at hgo
        generalize hbb:out.getD k 0=b at *
        generalize h1:op.getD i 0=o1 at *
        generalize h2:op.getD b.toNat 0=o2 at *
        generalize h3:nb.getD i 0=n1 at *
        generalize h4:nb.getD b.toNat 0=n2 at *
        ((try revert hK K);(repeat' (first|refine Va (X5 @hn @hop @hx1 @hbb (X4 @h1 @h2 @h3 @h4)) ?_|(refine V2 (X5 @hn @hop @hx1 @hbb (X4 @h1 @h2 @h3 @h4)) ?_ ?_<;>try with_reducible intro hb)|(refine Xi ?_ ?_<;>try intro ht)|refine VD ?_ ?_|exact Xx|fail))<;>try with_reducible intro K hK)
        all_goals try (exfalso;omega)
        all_goals exact hnl2 _ (k,(k:Int)) ⟨by dsimp only;omega,rfl,hrk⟩ (by dsimp only;omega) (Xv X0)
      · have hkq:k=q:=by
          cases k with
          | zero=>rw[posR] at hrk;exact hrk
          | succ k =>
            rw[Nat.add_sub_cancel] at hgo
            rw[posR,if_neg (fun h=>hgo ⟨by omega,h⟩)] at hrk
            exact hrk
        have hb:0<k→0≤out.getD (k - 1) 0∧out.getD (k - 1) 0<n:=fun h=>hin _ (getD_mem (by omega))
        have hng:0<k→¬ (op.getD i 0<op.getD (out.getD (k - 1) 0).toNat 0∨(op.getD i 0=op.getD (out.getD (k - 1) 0).toNat 0∧nb.getD (out.getD (k - 1) 0).toNat 0<nb.getD i 0)):=fun h e=>hgo ⟨h,by
          unfold ltR
          rw[Int.toNat_natCast]
          exact decide_eq_true e⟩
        have hyt:(x - 1).toNat=k - 1:=by omega
        generalize hbb:out.getD (k - 1) 0=b at *
        generalize h1:op.getD i 0=o1 at *
        generalize h2:op.getD b.toNat 0=o2 at *
        generalize h3:nb.getD i 0=n1 at *
        generalize h4:nb.getD b.toNat 0=n2 at *
        generalize hxy:x - 1=y at *
        clear hgo
        ((try revert hK K);(repeat' (first|refine Va (X5 @hn @hop @hxy @hyt (X5 @hbb @h1 @h2 @h3 @h4)) ?_|(refine V2 (X5 @hn @hop @hxy @hyt (X5 @hbb @h1 @h2 @h3 @h4)) ?_ ?_<;>try with_reducible intro hb)|(refine Xi ?_ ?_<;>try intro ht)|refine VD ?_ ?_|exact Xx|fail))<;>try with_reducible intro K hK)
        all_goals try (exfalso;omega)
        all_goals
          refine hel2 _ _ rfl ?_
          clear hnl2 hel2
          repeat (first|refine Xu ?_)
          rw[hx,hkq]
          refine W_turn (σ':=⟨slots [(1,.ptr 0 0 0),(4,.tree 1 (ints nb)),(6,.ref 1 1 0 n),(9,.ref 2 1 0 out.length),(10,.lit (.int .i64 i)),(11,.lit (.int .i64 q))],[.var (eMdl m),.arr 1 (ints op),.arr 1 (ints out)]⟩) (Xv X0) ?_
          have hltk:(out.take q).length=q:=by rw[List.length_take];omega
          have hldr:(out.drop q).length=out.length - q:=List.length_drop
          have h4:(out.take q).take q=out.take q:=by rw[List.take_take,Nat.min_self]
          have h5:(out.take q++[(i:Int)]).take (q+1)=out.take q++[(i:Int)]:=List.take_of_length_le (by rw[List.length_append,hltk];exact Nat.le_refl _)
          have h6:(out.drop q).take (out.length - q)=out.drop q:=List.take_of_length_le (by rw[hldr];exact Nat.le_refl _)
          have h7:q+1+(out.length - q)=out.length+1:=by omega
          have h8:out.take q++[(i:Int)]++out.drop q=out.take q++(i:Int)::out.drop q:=by rw[List.append_assoc];rfl
          repeat' (first|((fail_if_success (first|refine W_at 21 ?_|refine W_atE 21 ?_));refine Xr (X5 @Option.map_none.{0,0} @Option.map_some.{0,0} @implies_true.{0} @ints_tk @hltk) ?_;intro K hK)|refine Xo (X5 @Option.map_none.{0,0} @Option.map_some.{0,0} @implies_true.{0} @ints_tk @hltk) ?_|(refine hK _ ?_;clear hK K)|(refine Xg (X5 @Option.map_none.{0,0} @Option.map_some.{0,0} @implies_true.{0} @ints_tk @hltk) ?_ ?_<;>try intro hb)|(refine Xi ?_ ?_<;>try intro ht)|refine Xy ?_|refine Xd ?_ ?_|exact Xx|fail)
          all_goals try (exfalso;omega)
          refine unBq ?_;intro Q hn he
          refine (join_here ⟨slots [(1,.ptr 0 0 0),(4,.tree 1 (ints nb)),(6,.ref 1 1 0 n),(9,.ref 2 1 0 (out.length+1)),(10,.lit (.int .i64 i))],[.var (eMdl m),.arr 1 (ints op),.arr 1 (ints (out.take q++(i:Int)::out.drop q))]⟩ hn ?_ (fun key=>?_))
          rotate_left
          · refine W_draw [] (.take 0 (.take 1 (.take 4 (.take 5 (.both 2 (.both 3 (.take 6 (.take 7 (.take 8 .nil))) 6 (.take 3 (.take 7 (.take 8 .nil)))) 6 (.take 2 (.take 3 (.take 7 (.take 8 .nil))))))))) rfl (by decide) (by decide +kernel) ?_
            simp (disch:=omega) only[Ac,↓Pc,simprocAttr,Pw,Option.map_none,Option.map_some,implies_true,ints_tk,ints_dr,hltk,hldr,h4,h5,h6,h7,h8]
            repeat' (first|with_reducible refine And.intro ?_ ?_|omega|with_reducible rfl)
            all_goals
              refine .n _ (key _ ?_)
              first
                | ((refine Turns.se [0,1,6] false (by simp only[Oc,simprocAttr]) ?_;simp only[Hr,↓reduceIte,reduceEqDiff,Nat.reduceBEq,reduceAdd];try (and_intros<;>first|exact .pure rfl|exact .eq rfl|exact .fz rfl (by simp only[Bc,Rc])));done)
                | ((refine Turns.se [0,1,5] false (by simp only[Oc,simprocAttr]) ?_;simp only[Hr,↓reduceIte,reduceEqDiff,Nat.reduceBEq,reduceAdd];try (and_intros<;>first|exact .pure rfl|exact .eq rfl|exact .fz rfl (by simp only[Bc,Rc])));done)
                | fail
          (try clear hn;try clear he)
          ((try revert hK K);(repeat' (first|refine Va X0 ?_|(refine V2 X0 ?_ ?_<;>try with_reducible intro hb)|(refine Xi ?_ ?_<;>try intro ht)|refine VD ?_ ?_|exact Xx|fail))<;>try with_reducible intro K hK)
          exact hnl _ (i+1,out.take q++(i:Int)::out.drop q) ⟨by dsimp only;omega,by dsimp only;omega,fun y hy=>by
            rcases (him y).1 hy with h | h
            · omega
            · exact hin y h,hr⟩ (by dsimp only;omega) (by dsimp only;rw[hil];exact Xv X0)
    · rw[List.drop_eq_nil_of_le (by rw[idL_len];omega),sortR] at hr
      ((try revert hK K);(repeat' (first|refine Va @hn ?_|(refine V2 @hn ?_ ?_<;>try with_reducible intro hb)|(refine Xi ?_ ?_<;>try intro ht)|refine VD ?_ ?_|exact Xx|fail))<;>try with_reducible intro K hK)
      all_goals try (exfalso;omega)
      refine hel _ _ rfl ?_;clear hnl hel Ql
      repeat (first|refine Xu ?_)
      ((try revert hK K);(repeat' (first|refine Vb X0 ?_|(refine V2 X0 ?_ ?_<;>try with_reducible intro hb)|(refine Xi ?_ ?_<;>try intro ht)|refine VD ?_ ?_|exact Xx|fail))<;>try with_reducible intro K hK)
      rw[← hres,← hr]
      exact RetOK_sel [] true (by decide) trivial (by decide) (by decide) (ArgR.tup2 (ArgR.frz (rows:=ints out) rfl (ints_wid _) (by rw[ints_length]) (not_kept (by simp)) (ints_frz _)) (.pure rfl))
end T

