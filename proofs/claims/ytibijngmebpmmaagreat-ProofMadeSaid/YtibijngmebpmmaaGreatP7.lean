import Derived.Test.YtibijngmebpmmaaGreatP6
import Derived.Test.YtibijngmebpmmaaGreatPD
import Derived.Test.YtibijngmebpmmaaGreatMC
set_option linter.unusedVariables false
set_option linter.unusedSimpArgs false
set_option linter.unnecessarySimpa false
open Go Go.Am Go.Proofs
open Nat (reduceEqDiff reduceAdd reduceLeDiff reduceMul)
open Int (reduceNeg reduceLE reduceToNat)
set_option maxRecDepth 20000
namespace T
def chkS (m:Mdl) (P:List Nd) (b:Int) (s:St3):Int × Bool :=
  if (nd P s.1).cls≠-1 then (b,true)
  else if 0<(nd P s.1).grp.length then (b,crowdedB m (nd P s.1) s.2.1)
  else (min b (leafT m s.2.1 (nd P s.1).mvs).1,(leafT m s.2.1 (nd P s.1).mvs).2 == 0)
def chkV (m:Mdl) (P:List Nd):Int × Bool:=if (walkV m P (chkS m P) 1099511627776).2=true then ((walkV m P (chkS m P) 1099511627776).1,true) else (0,false)
set_option maxHeartbeats 8000000 in
theorem chk1_ok (m:Mdl) (P:List Nd) (hP:PB P) (hm:VM m) (b:Int) (s:St3) (hs:GoodS m P s) :
    Holds Tryz.prog 24 [.agg [.lit (.int .i64 s.1),.tree 1 (rowsOf eBs s.2.1)],.ptr 1 0 0,.ptr 0 0 0,.ptr 2 0 0] [.var (eMdl m),.var (ePf P),.var [.lit (.int .i64 b)]] (.lit (.bool (chkS m P b s).2)) [.var (eMdl m),.var (ePf P),.var [.lit (.int .i64 (chkS m P b s).1)]]:=by
  obtain ⟨i,left,ab⟩:=s
  have hi:i<P.length:=hs.1
  have hf:FitsP m left:=hs.2.1
  have hp0:=hP.nds
  have hnd:P.getD i default=nd P i:=rfl
  have hmem:=getD_mem (l:=P) (i:=i) (d:=default) hi
  have b2:=hP.mvs _ hmem
  have b3:=hP.grp _ hmem
  have b4:=hP.cells _ hmem
  have b5:=hP.cell _ hmem
  generalize hres:chkS m P b (i,left,ab)=res
  unfold chkS at hres
  rw[hnd] at b2 b3 b4 b5
  dsimp only at hres
  have hcr:=crowded_ok m (nd P i) left hm hf b3 b4 b5
  have hlf:=leaf_ok m left (nd P i).mvs hm hf b2
  generalize crowdedB m (nd P i) left=cw at *
  generalize leafT m left (nd P i).mvs=lt at *
  generalize hxx:nd P i=x at *
  obtain ⟨c,kids,mvs,grp,cells⟩:=x
  obtain ⟨v,e⟩:=lt
  dsimp only at *
  refine Holds.of_body' (fn:=Tryz.f24) 41 3 [.tmp 5] Tryz.func24 rfl rfl rfl rfl rfl (by simp) ?_
  by_cases hc:c = -1
  rotate_left
  · rw[if_pos hc] at hres
    repeat' (first|(refine Xr (X3 @ePf.eq_1 @hnd @eNd.eq_1) ?_;intro K hK)|refine Xo (X3 @ePf.eq_1 @hnd @eNd.eq_1) ?_|(refine hK _ ?_;clear hK K)|(refine Xg (X3 @ePf.eq_1 @hnd @eNd.eq_1) ?_ ?_<;>try intro hb)|(refine Xi ?_ ?_<;>try intro ht)|refine Xz ?_|refine Xh ?_|refine Xe ?_|refine Xd ?_ ?_|omega|with_reducible rfl|exact trivial)
    all_goals try (exfalso;omega)
    subst hres
    exact Xw false [0,1,2] @ePf.eq_1
  rw[if_neg (by omega)] at hres
  by_cases hg:0<grp.length
  · rw[if_pos hg] at hres
    repeat' (first|(refine Xq (X3 @ePf.eq_1 @hnd @eNd.eq_1) ?_;intro K hK)|refine Xo (X3 @ePf.eq_1 @hnd @eNd.eq_1) ?_|refine Xc (hcr) ?_|(refine hK _ ?_;clear hK K)|(refine Xg (X3 @ePf.eq_1 @hnd @eNd.eq_1) ?_ ?_<;>try intro hb)|(refine Xi ?_ ?_<;>try intro ht)|refine Xz ?_|refine Xh ?_|refine Xe ?_|refine Xd ?_ ?_|omega|with_reducible rfl|exact trivial)
    all_goals try (exfalso;omega)
    subst hres
    exact Xw false [0,1,2] @ePf.eq_1
  rw[if_neg hg] at hres
  repeat' (first|(refine Xq (X3 @ePf.eq_1 @hnd @eNd.eq_1) ?_;intro K hK)|refine Xo (X3 @ePf.eq_1 @hnd @eNd.eq_1) ?_|refine Xc (hlf) ?_|(refine hK _ ?_;clear hK K)|(refine Xg (X3 @ePf.eq_1 @hnd @eNd.eq_1) ?_ ?_<;>try intro hb)|(refine Xi ?_ ?_<;>try intro ht)|refine Xz ?_|refine Xh ?_|refine Xe ?_|refine Xd ?_ ?_|omega|with_reducible rfl|exact trivial)
  all_goals try (exfalso;omega)
  subst hres
  exact Xw false [0,1,2] @ePf.eq_1
theorem check_ok (m:Mdl) (P:List Nd) (hm:MB m) (hP:PB P):Holds Tryz.prog 15 [.agg (eMdl m),.agg (ePf P)] [] (.tup [.lit (.int .i64 (chkV m P).1),.lit (.bool (chkV m P).2)]) []:=by
  have hw:=walk_ok m P hm hP (fun _=>.var (eMdl m)) (fun _=>.var (ePf P)) (fun b:Int=>.var [.lit (.int .i64 b)]) [.ptr 1 0 0,.ptr 0 0 0,.ptr 2 0 0] 24 (chkS m P) (Inv:=fun _ _=>True)
    ⟨fun ρ h0 h1 h2 a=>⟨rfl,rfl,rfl⟩,fun ρ h0 h1 h2 v hv=>by
      simp only[List.mem_cons,List.not_mem_nil,or_false] at hv
      rcases hv with rfl | rfl | rfl<;>simp only[ren,h0,h1,h2],fun _ _ _ _ _=>trivial,fun hvm a s _ hs _=>chk1_ok m P hP hvm a s hs⟩ 1099511627776 (fun _ _=>trivial)
  generalize hres:chkV m P=res
  unfold chkV at hres
  generalize walkV m P (chkS m P) 1099511627776=r at *
  obtain ⟨b,ok⟩:=r
  dsimp only at hw hres
  refine Holds.of_body' (fn:=Tryz.f15) 15 0 [.tmp 4,.tmp 5] Tryz.func15 rfl rfl rfl rfl rfl (by simp) ?_
  repeat' (first|(refine Xr @ePf.eq_1 ?_;intro K hK)|refine Xo @ePf.eq_1 ?_|(refine hK _ ?_;clear hK K)|(refine Xg @ePf.eq_1 ?_ ?_<;>try intro hb)|(refine Xi ?_ ?_<;>try intro ht)|refine Xz ?_|refine Xh ?_|refine Xe ?_|refine Xd ?_ ?_|omega|with_reducible rfl|exact trivial)
  refine callK_all hw (by simp) ?_
  cases ok
  · rw[if_neg (by simp)] at hres
    repeat' (first|(refine Xr @Bool.not_false ?_;intro K hK)|refine Xo @Bool.not_false ?_|(refine hK _ ?_;clear hK K)|(refine Xg @Bool.not_false ?_ ?_<;>try intro hb)|(refine Xi ?_ ?_<;>try intro ht)|refine Xz ?_|refine Xh ?_|refine Xe ?_|refine Xd ?_ ?_|omega|with_reducible rfl|exact trivial)
    subst hres
    exact RetOK_pure' rfl rfl
  · rw[if_pos rfl] at hres
    repeat' (first|(refine Xr @Bool.not_true ?_;intro K hK)|refine Xo @Bool.not_true ?_|(refine hK _ ?_;clear hK K)|(refine Xg @Bool.not_true ?_ ?_<;>try intro hb)|(refine Xi ?_ ?_<;>try intro ht)|refine Xz ?_|refine Xh ?_|refine Xe ?_|refine Xd ?_ ?_|omega|with_reducible rfl|exact trivial)
    subst hres
    exact RetOK_pure' rfl rfl
def lftS (k:Int) (a:Option (List (List Bool))) (s:St3):Option (List (List Bool)) × Bool:=(if (s.1:Int)=k then some s.2.1 else a,true)
def lftC:Option (List (List Bool))→AV
  | none=>.lit (.slice none 0 0)
  | some xs=>.tree 1 (rowsOf eBs xs)
def lftV (m:Mdl) (P:List Nd) (k:Int):List (List Bool) × Bool :=
  if (walkV m P (lftS k) none).2=true∧0≤k∧k<P.length then ((walkV m P (lftS k) none).1.getD [],true) else ([],false)
set_option maxHeartbeats 8000000 in
theorem lft1_ok (m:Mdl) (hm:VM m) (P:List Nd) (k:Int) (a:Option (List (List Bool))) (s:St3) (hs:GoodS m P s) (hx:(s.1:Int)=k→a=none) :
    Holds Tryz.prog 33 [.agg [.lit (.int .i64 s.1),.tree 1 (rowsOf eBs s.2.1)],.ptr 0 0 0,.ptr 1 0 0] [.var [.lit (.int .i64 k)],.var [lftC a],.var (eMdl m)] (.lit (.bool true)) [.var [.lit (.int .i64 k)],.var [lftC (lftS k a s).1],.var (eMdl m)]:=by
  obtain ⟨i,left,ab⟩:=s
  have hf:FitsP m left:=hs.2.1
  have hc24:=hm.cls
  have hfl:=hf.1
  unfold lftS
  dsimp only at hx ⊢
  by_cases hk:(i:Int)=k
  rotate_left
  · rw[if_neg hk]
    cases a<;>unfold lftC
    all_goals
      refine Holds.of_body' (fn:=Tryz.f33) 24 3 [.tmp 4] Tryz.func33 rfl rfl rfl rfl rfl (by simp) ?_
      repeat' (first|(refine Xr X0 ?_;intro K hK)|refine Xo X0 ?_|(refine hK _ ?_;clear hK K)|(refine Xg X0 ?_ ?_<;>try intro hb)|(refine Xi ?_ ?_<;>try intro ht)|refine Xz ?_|refine Xh ?_|refine Xe ?_|refine Xd ?_ ?_|omega|with_reducible rfl|exact trivial)
      all_goals try (exfalso;omega)
      exact Xw false [0,1,2] X0
  rw[if_pos hk,hx hk]
  unfold lftC
  refine Holds.of_body' (fn:=Tryz.f33) 24 3 [.tmp 4] Tryz.func33 rfl rfl rfl rfl rfl (by simp) ?_
  repeat' (first|(refine Xr X0 ?_;intro K hK)|refine Xo X0 ?_|(refine hK _ ?_;clear hK K)|(refine Xg X0 ?_ ?_<;>try intro hb)|(refine Xi ?_ ?_<;>try intro ht)|refine Xz ?_|refine Xh ?_|refine Xe ?_|refine Xd ?_ ?_|omega|with_reducible rfl|exact trivial)
  all_goals try (exfalso;omega)
  refine W_loopS (fun z:Nat × List (List Bool)=>(⟨slots [(2,.ptr 1 0 0),(3,.ptr 3 0 0),(12,.tree 1 (rowsOf eBs left)),(13,.lit (.int .i64 left.length)),(14,.lit (.int .i64 z.1))],[.var [.lit (.int .i64 k)],.var [.ref 4 1 0 z.2.length],.var (eMdl m),.var [.lit (.int .i64 i),.tree 1 (rowsOf eBs left)],.arr 1 (rowsOf eBs z.2)]⟩:St))
    (fun z=>z.1≤left.length∧z.2=left.take z.1) (fun z=>left.length - z.1) (0,[]) ⟨Nat.zero_le _,by simp⟩ ?_ ?_
  · refine Turns.trans (Turns.nilC 1 0 1 (by rfl) (by rfl) (by decide)) ?_
    exact Xv X0
  rintro ⟨j,ys⟩ ⟨hj,hys⟩ Ql hnl hel
  dsimp only at hj hys ⊢
  by_cases hj':j<left.length
  · have hts:=take_snoc hj'
    have hr24:=hf.row hm _ (getD_mem (l:=left) (i:=j) (d:=default) hj')
    have hxl:ys.length=j:=by rw[hys,List.length_take];omega
    have hcl:=cloneFB_ok (left.getD j default) (by omega)
    generalize hrr:left.getD j default=row at *
    have hys2:ys++[row]=left.take (j+1):=by rw[hts,hys]
    repeat' (first|(refine Xq (X3 @hrr @eBs.eq_1 @eBs_app) ?_;intro K hK)|refine Xo (X3 @hrr @eBs.eq_1 @eBs_app) ?_|refine Xc (hcl) ?_|(refine hK _ ?_;clear hK K)|(refine Xg (X3 @hrr @eBs.eq_1 @eBs_app) ?_ ?_<;>try intro hb)|(refine Xi ?_ ?_<;>try intro ht)|refine Xz ?_|refine Xe ?_|refine Xd ?_ ?_|omega|with_reducible rfl|exact trivial)
    all_goals try (exfalso;omega)
    refine hnl _ (j+1,ys++[row]) ⟨by dsimp only;omega,hys2⟩ (by dsimp only;omega) ?_
    exact Xs false [0,1,2,3,6] X0
  · obtain rfl:j=left.length:=by omega
    rw[List.take_length] at hys
    repeat' (first|(refine Xr X0 ?_;intro K hK)|refine Xo X0 ?_|(refine hK _ ?_;clear hK K)|(refine Xg X0 ?_ ?_<;>try intro hb)|(refine Xi ?_ ?_<;>try intro ht)|refine Xz ?_|refine Xe ?_|refine Xd ?_ ?_|omega|with_reducible rfl|exact trivial)
    refine hel _ _ rfl ?_;clear hnl hel Ql
    repeat (first|refine Xu ?_)
    refine W_turn (Turns.frzV 4 1 0 1 (by rfl) (by rfl) (by show some _=some _;simp[rowsOf]) (rows_wid _) (rows_frz _)) ?_
    repeat' (first|(refine Xr X0 ?_;intro K hK)|refine Xo X0 ?_|(refine hK _ ?_;clear hK K)|(refine Xg X0 ?_ ?_<;>try intro hb)|(refine Xi ?_ ?_<;>try intro ht)|refine Xz ?_|refine Xh ?_|refine Xe ?_|refine Xd ?_ ?_|omega|with_reducible rfl|exact trivial)
    rw[hys]
    exact Xw false [0,1,2] X0
def noMore (k:Int) (a:Option (List (List Bool))) (L:List St3):Prop:=(L.map (·.1)).count k.toNat≤(if a=none then 1 else 0)
theorem noMore_step {k:Int} {a:Option (List (List Bool))} {s:St3} {L:List St3} (h:noMore k a (s::L)):noMore k (lftS k a s).1 L∧((s.1:Int)=k→a=none):=by
  unfold noMore at *
  rw[List.map_cons,List.count_cons] at h
  unfold lftS
  dsimp only
  by_cases e:(s.1:Int)=k
  · have:(s.1 == k.toNat)=true:=by rw[beq_iff_eq];omega
    rw[this,if_pos rfl] at h
    rw[if_pos e]
    split at h
    · rename_i h0
      exact⟨by rw[if_neg (by simp)];omega,fun _=>h0⟩
    · omega
  · rw[if_neg e]
    exact⟨by omega,fun h=>absurd h e⟩
set_option maxHeartbeats 4000000 in
theorem pleft_ok (m:Mdl) (P:List Nd) (k:Int) (hm:MB m) (hP:PB P):Holds Tryz.prog 20 [.agg (eMdl m),.agg (ePf P),.lit (.int .i64 k)] [] (.tup [.tree 1 (rowsOf eBs (lftV m P k).1),.lit (.bool (lftV m P k).2)]) []:=by
  have hp0:=hP.nds
  have hw:=walk_ok m P hm hP (fun _=>.var [.lit (.int .i64 k)]) (fun a=>.var [lftC a]) (fun _=>.var (eMdl m)) [.ptr 0 0 0,.ptr 1 0 0] 33 (lftS k) (Inv:=fun a L=>0≤k→noMore k a L)
    ⟨fun ρ h0 h1 h2 a=>⟨rfl,by cases a<;>rfl,rfl⟩,fun ρ h0 h1 h2 v hv=>by
      simp only[List.mem_cons,List.not_mem_nil,or_false] at hv
      rcases hv with rfl | rfl<;>simp only[ren,h0,h1],fun a s L _ h h0=>(noMore_step (h h0)).1,fun hvm a s L hs h=>by
        refine lft1_ok m hvm P k a s hs fun e=>(noMore_step (h (by omega))).2 e⟩ none (fun hvm hs h0=>by
      unfold noMore
      rw[if_pos rfl]
      rcases Nat.lt_or_ge k.toNat P.length with h | h
      · exact Nat.le_of_eq (vs_once hs rfl _ h)
      · rw[List.count_eq_zero.2]
        · omega
        · intro hh
          obtain ⟨v,hv,e⟩:=List.mem_map.1 hh
          have:=vis_range (shaped_down hs) _ (root m) (by have:=shaped_len hs;show 0<P.length;omega) v hv
          omega)
  generalize hres:lftV m P k=res
  unfold lftV at hres
  generalize walkV m P (lftS k) none=r at *
  obtain ⟨xs,ok⟩:=r
  dsimp only at hw hres
  refine Holds.of_body' (fn:=Tryz.f20) 28 0 [.tmp 6,.tmp 7] Tryz.func20 rfl rfl rfl rfl rfl (by simp) ?_
  repeat' (first|(refine Xr @ePf.eq_1 ?_;intro K hK)|refine Xo @ePf.eq_1 ?_|(refine hK _ ?_;clear hK K)|(refine Xg @ePf.eq_1 ?_ ?_<;>try intro hb)|(refine Xi ?_ ?_<;>try intro ht)|refine Xz ?_|refine Xh ?_|refine Xe ?_|refine Xd ?_ ?_|omega|with_reducible rfl|exact trivial)
  refine callK_sel [2,3,0] hw (by decide) ⟨rfl,rfl,rfl,trivial⟩ ⟨.pure rfl,.pure rfl,.eq rfl,trivial⟩ ?_
  cases ok
  · rw[if_neg (by simp)] at hres
    subst hres
    repeat' (first|(refine Xr @Bool.not_false ?_;intro K hK)|refine Xo @Bool.not_false ?_|(refine hK _ ?_;clear hK K)|(refine Xg @Bool.not_false ?_ ?_<;>try intro hb)|(refine Xi ?_ ?_<;>try intro ht)|refine Xz ?_|refine Xh ?_|refine Xe ?_|refine Xd ?_ ?_|omega|with_reducible rfl|exact trivial)
    exact RetOK_sel [] true (by decide) trivial (by decide) (by decide) (ArgR.tup2 ArgR.nil (.pure rfl))
  by_cases hk:0≤k∧k<P.length
  · rw[if_pos ⟨rfl,hk⟩] at hres
    subst hres
    cases xs<;>unfold lftC
    · repeat' (first|(refine Xr @Bool.not_true ?_;intro K hK)|refine Xo @Bool.not_true ?_|(refine hK _ ?_;clear hK K)|(refine Xg @Bool.not_true ?_ ?_<;>try intro hb)|(refine Xi ?_ ?_<;>try intro ht)|refine Xz ?_|refine Xh ?_|refine Xe ?_|refine Xd ?_ ?_|omega|with_reducible rfl|exact trivial)
      all_goals try (exfalso;omega)
      exact RetOK_sel [] true (by decide) trivial (by decide) (by decide) (ArgR.tup2 ArgR.nil (.pure rfl))
    · repeat' (first|(refine Xr @Bool.not_true ?_;intro K hK)|refine Xo @Bool.not_true ?_|(refine hK _ ?_;clear hK K)|(refine Xg @Bool.not_true ?_ ?_<;>try intro hb)|(refine Xi ?_ ?_<;>try intro ht)|refine Xz ?_|refine Xh ?_|refine Xe ?_|refine Xd ?_ ?_|omega|with_reducible rfl|exact trivial)
      all_goals try (exfalso;omega)
      exact RetOK_pure' rfl rfl
  · rw[if_neg (fun h=>hk h.2)] at hres
    subst hres
    cases xs<;>unfold lftC
    all_goals
      repeat' (first|(refine Xr @Bool.not_true ?_;intro K hK)|refine Xo @Bool.not_true ?_|(refine hK _ ?_;clear hK K)|(refine Xg @Bool.not_true ?_ ?_<;>try intro hb)|(refine Xi ?_ ?_<;>try intro ht)|refine Xz ?_|refine Xh ?_|refine Xe ?_|refine Xd ?_ ?_|omega|with_reducible rfl|exact trivial)
      all_goals try (exfalso;omega)
      all_goals exact RetOK_sel [] true (by decide) trivial (by decide) (by decide) (ArgR.tup2 ArgR.nil (.pure rfl))
theorem trivial_ok:Holds Tryz.prog 16 [] [] (.agg (ePf [⟨-1,[],[],[],[]⟩])) []:=by
  refine Holds.of_body' (fn:=Tryz.f16) 4 0 [.cell 0 35] Tryz.func16 rfl rfl rfl rfl rfl (by simp) ?_
  repeat' (first|(refine Xr X0 ?_;intro K hK)|refine Xo X0 ?_|(refine hK _ ?_;clear hK K)|(refine Xg X0 ?_ ?_<;>try intro hb)|(refine Xi ?_ ?_<;>try intro ht)|refine Xz ?_|refine Xh ?_|refine Xe ?_|refine Xd ?_ ?_|omega|with_reducible rfl|exact trivial)
  simp (disch:=omega) only[Ac,↓Pc,simprocAttr]
  refine RetOK_sel [] true (by decide) trivial (by decide) (by decide) ?_
  refine ArgR.agg _ _ rfl (ArgsR.spec (R:=ArgR _ _ _ _) (cs:=ePf [⟨-1,[],[],[],[]⟩]) (ds:=[.ref 1 5 0 1]) ⟨.snap _ _ rfl ?_,trivial⟩).2
  exact Frz.mk rfl rfl (not_kept (by decide)) (rows_wid _) ⟨⟨.lit _,.nil _,.nil _,.nil _,.nil _,trivial⟩,trivial⟩
end T

