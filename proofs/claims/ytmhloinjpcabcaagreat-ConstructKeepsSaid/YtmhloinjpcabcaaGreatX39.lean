import Derived.Test.YtmhloinjpcabcaaGreatX28
import Derived.Test.YtmhloinjpcabcaaGreatX29
import Derived.Test.YtmhloinjpcabcaaGreatX19
set_option linter.unusedVariables false
set_option linter.unusedSimpArgs false
set_option linter.unnecessarySimpa false
set_option linter.unusedSectionVars false
set_option maxHeartbeats 64000000
set_option maxRecDepth 20000
open Go Go.Am
open Go Go.Am Go.Proofs
open Nat (reduceEqDiff reduceAdd reduceLeDiff reduceMul)
open Int (reduceNeg reduceLE reduceToNat)
namespace T
def posR (lt:Int→Int→Bool) (x:Int) (l:List Int):Nat→Nat
  | 0=>0
  | k+1=>if lt x (l.getD k 0)=true then posR lt x l k else k+1
theorem posR_le (lt:Int→Int→Bool) (x:Int) (l:List Int):∀ k,posR lt x l k≤k
  | 0=>Nat.le_refl _
  | k+1=>by
    rw[posR]
    split
    · have:=posR_le lt x l k;omega
    · exact Nat.le_refl _
def insR (lt:Int→Int→Bool) (x:Int) (l:List Int):List Int:=l.take (posR lt x l l.length)++x::l.drop (posR lt x l l.length)
def sortR (lt:Int→Int→Bool):List Int→List Int→List Int
  | [],out=>out
  | x::r,out=>sortR lt r (insR lt x out)
def slide (l:List Int) (x:Int) (j:Nat):List Int:=l.take j++x::l.drop j
theorem slide_get (l:List Int) (x:Int) {j:Nat} (hj:j≤l.length):(slide l x j).getD j 0=x:=by
  unfold slide
  rw[List.getD_eq_getElem?_getD,List.getElem?_append_right (by simp;omega)]
  simp[Nat.min_eq_left hj]
theorem slide_prev (l:List Int) (x:Int) {j:Nat} (hj:j+1≤l.length):(slide l x (j+1)).getD j 0=l.getD j 0:=by
  unfold slide
  rw[List.getD_eq_getElem?_getD,List.getElem?_append_left (by simp;omega),List.getElem?_take,if_pos (by omega),← List.getD_eq_getElem?_getD]
theorem slide_step (l:List Int) (x:Int) {j:Nat} (hj:j+1≤l.length):((slide l x (j+1)).set (j+1) (l.getD j 0)).set j x=slide l x j:=by
  unfold slide
  have h1:l.drop j=l.getD j 0::l.drop (j+1):=by
    rw[List.drop_eq_getElem_cons (by omega),List.getD_eq_getElem?_getD,List.getElem?_eq_getElem (by omega),Option.getD_some]
  have h2:l.take (j+1)=l.take j++[l.getD j 0]:=by
    rw[List.take_add_one,List.getD_eq_getElem?_getD]
    rw[List.getElem?_eq_getElem (by omega)];rfl
  rw[h2,h1]
  have hl:(l.take j).length=j:=by simp;omega
  rw[List.append_assoc,List.set_append_right _ _ (by omega),hl,show j+1 - j=1 by omega]
  rw[List.set_append_right _ _ (by omega),hl,Nat.sub_self]
  rfl
theorem slide_len (l:List Int) (x:Int) (j:Nat):(slide l x j).length=l.length+1:=by unfold slide;simp;omega
theorem slide_full (l:List Int) (x:Int):slide l x l.length=l++[x]:=by unfold slide;simp
def openV (m:Mdl):List Int:=m.cls.map fun l=>((l.countP freeB:Nat):Int)
def ltP (op nb:List Int) (a b:Int):Bool:=decide (orL [cmp3 (op.getD a.toNat 0) (op.getD b.toNat 0),cmp3 (nb.getD b.toNat 0) (nb.getD a.toNat 0),cmp3 a b]<0)
def ltR (op nb:List Int) (a b:Int):Bool:=decide (op.getD a.toNat 0<op.getD b.toNat 0∨(op.getD a.toNat 0=op.getD b.toNat 0∧nb.getD b.toNat 0<nb.getD a.toNat 0))
def idL (n:Nat):List Int:=(List.range n).map fun k:Nat=>(k:Int)
def orderV (m:Mdl):List Int:=sortR (ltR (openV m) (nbV m)) (idL m.cls.length) []
theorem ltP_eq (op nb:List Int) {a b:Int} (h:b<a):ltP op nb a b=ltR op nb a b:=by
  unfold ltP ltR orL orL orL orL cmp3
  congr 1
  rw[eq_iff_iff]
  (repeat' split)<;>omega
theorem posR_congr {f g:Int→Int→Bool} {x:Int} {l:List Int} (h:∀ y∈l,f x y=g x y):∀ k,k≤l.length→posR f x l k=posR g x l k
  | 0,_=>rfl
  | k+1,hk=>by
    have hm:l.getD k 0∈l:=getD_mem (by omega)
    rw[posR,posR,h _ hm,posR_congr h k (by omega)]
theorem insR_congr {f g:Int→Int→Bool} {x:Int} {l:List Int} (h:∀ y∈l,f x y=g x y):insR f x l=insR g x l:=by
  unfold insR
  rw[posR_congr h _ (Nat.le_refl _)]
theorem insR_perm (lt:Int→Int→Bool) (x:Int) (l:List Int):(insR lt x l).Perm (x::l):=by
  unfold insR
  refine List.perm_middle.trans ?_
  rw[List.take_append_drop]
theorem insR_mem {lt:Int→Int→Bool} {x y:Int} {l:List Int}:y∈insR lt x l↔y=x∨y∈l:=by
  rw[(insR_perm lt x l).mem_iff,List.mem_cons]
theorem sortR_perm (lt:Int→Int→Bool):∀ (l out:List Int),(sortR lt l out).Perm (out++l)
  | [],out=>by rw[sortR,List.append_nil]
  | x::r,out=>by
    rw[sortR]
    refine (sortR_perm lt r _).trans (((insR_perm lt x out).append_right r).trans ?_)
    exact List.perm_middle.symm
theorem sortR_snoc (lt:Int→Int→Bool):∀ (l out:List Int) (x:Int),sortR lt (l++[x]) out=insR lt x (sortR lt l out)
  | [],out,x=>rfl
  | y::r,out,x=>by rw[List.cons_append,sortR,sortR,sortR_snoc lt r]
theorem sortR_eq (op nb:List Int):∀ (n k:Nat) (out:List Int),(∀ y∈out,y<k)→sortR (ltP op nb) ((List.range' k n).map fun k:Nat=>(k:Int)) out=sortR (ltR op nb) ((List.range' k n).map fun k:Nat=>(k:Int)) out
  | 0,_,_,_=>rfl
  | n+1,k,out,h=>by
    rw[List.range'_succ,List.map_cons,sortR,sortR,insR_congr (fun y hy=>ltP_eq op nb (h y hy))]
    exact sortR_eq op nb n (k+1) _ fun y hy=>by
      rcases insR_mem.1 hy with h1 | h1
      · omega
      · have:=h y h1;omega
theorem order_eq (m:Mdl):sortR (ltP (openV m) (nbV m)) (idL m.cls.length) []=orderV m:=by
  unfold orderV idL
  rw[List.range_eq_range']
  exact sortR_eq _ _ _ _ _ (by simp)
theorem idL_len (n:Nat):(idL n).length=n:=by unfold idL;simp
theorem idL_get {n k:Nat} (h:k<n):(idL n).getD k 0=k:=by
  unfold idL
  rw[List.getD_eq_getElem?_getD,List.getElem?_map,List.getElem?_range h];rfl
theorem sortR_len (lt:Int→Int→Bool) (l out:List Int):(sortR lt l out).length=out.length+l.length:=by rw[(sortR_perm lt l out).length_eq,List.length_append]
theorem orderV_len (m:Mdl):(orderV m).length=m.cls.length:=by unfold orderV;rw[sortR_len,idL_len];simp
theorem orderV_mem {m:Mdl} {x:Int}:x∈orderV m↔0≤x∧x<m.cls.length:=by
  unfold orderV
  rw[(sortR_perm _ _ _).mem_iff,List.nil_append]
  unfold idL
  rw[List.mem_map]
  constructor
  · rintro ⟨k,hk,rfl⟩
    rw[List.mem_range] at hk;omega
  · rintro ⟨h1,h2⟩
    exact⟨x.toNat,List.mem_range.2 (by omega),by omega⟩
theorem orderV_nd (m:Mdl):(orderV m).Nodup:=by
  unfold orderV
  rw[(sortR_perm _ _ _).nodup_iff,List.nil_append]
  unfold idL
  rw[List.nodup_iff_pairwise_ne,List.pairwise_map]
  exact (List.nodup_iff_pairwise_ne.1 List.nodup_range).imp fun hxy e=>hxy (by omega)
def grdV (m:Mdl):List Int→List Int→List Int
  | [],plan=>plan
  | c::r,plan=>grdV m r (plan.set c.toNat (plcM m plan c.toNat))
def rngB (n:Nat) (order:List Int):Bool:=order.all fun c=>decide (0≤c∧c<n)
theorem grdV_len (m:Mdl):∀ (l plan:List Int),(grdV m l plan).length=plan.length
  | [],_=>rfl
  | c::r,plan=>by rw[grdV,grdV_len m r,List.length_set]
theorem grd_pm {m:Mdl}:∀ (l plan:List Int),(∀ c∈l,0≤c∧c<m.cls.length)→PM m plan→PM m (grdV m l plan)
  | [],plan,_,h=>h
  | c::r,plan,hc,h=>by
    have h1:=hc c (by simp)
    exact grd_pm r _ (fun x hx=>hc x (by simp[hx])) (plcM_pm h (by omega))
theorem grd_I {m:Mdl} (hm:VM m):∀ (l plan:List Int) (done:List Bool),(∀ c∈l,(0≤c∧c<m.cls.length)∧done.getD c.toNat false=false)→l.Nodup→done.length=m.cls.length→SatI m plan done →
    ∃ done',SatI m (grdV m l plan) done'∧(∀ c:Nat,done.getD c false=true→done'.getD c false=true)∧∀ c∈l,done'.getD c.toNat false=true
  | [],plan,done,_,_,_,h=>⟨done,h,fun _ h=>h,by simp⟩
  | c::r,plan,done,hc,hnd,hd,h=>by
    obtain ⟨⟨h1,h2⟩,h3⟩:=hc c (by simp)
    rw[List.nodup_cons] at hnd
    obtain ⟨d',g1,g2,g3⟩:=grd_I hm r _ (done.set c.toNat true) (fun x hx=>⟨(hc x (by simp[hx])).1,by
      have h4:=hc x (by simp[hx])
      rw[getD_set' _ _ _ _ _ (by omega),if_neg,h4.2]
      intro e
      exact hnd.1 (by rw[show c=x by omega];exact hx)⟩) hnd.2 (by rw[List.length_set];exact hd) (h.step hm hd (by omega) h3)
    have hset:∀ k:Nat,(done.set c.toNat true).getD k false=if c.toNat=k then true else done.getD k false:=fun k=>getD_set' _ _ _ _ _ (by omega)
    refine⟨d',g1,fun k hk=>g2 k ?_,fun x hx=>?_⟩
    · rw[hset];split
      · rfl
      · exact hk
    · rcases List.mem_cons.1 hx with rfl | hx
      · exact g2 _ (by rw[hset,if_pos rfl])
      · exact g3 x hx
theorem grd_keeps {m:Mdl} (hm:VM m):costP m (grdV m (orderV m) (noneV m))<1099511627776∧∀ c,c<m.cls.length→(grdV m (orderV m) (noneV m)).getD c 0 = -1→∀ k:Nat,k<(m.cls.getD c default).length→1099511627776≤costP m ((grdV m (orderV m) (noneV m)).set c (k:Int)):=by
  obtain ⟨d,h1,h2,h3⟩:=grd_I hm (orderV m) (noneV m) (List.replicate m.cls.length false) (fun c hc=>⟨orderV_mem.1 hc,by
    rw[List.getD_eq_getElem?_getD,List.getElem?_replicate];split<;>rfl⟩) (orderV_nd m) (by simp) (satI0 hm)
  refine⟨h1.low,fun c hc h=>h1.not c hc ?_ h⟩
  have:=h3 (c:Int) (orderV_mem.2 ⟨by omega,by omega⟩)
  rwa [Int.toNat_natCast] at this
def twB:List Int→List Int→Bool
  | _,[]=>false
  | seen,c::r=>decide (c∈seen) || twB (c::seen) r
theorem strB_le (s:ByteArray) (n:Nat):0≤strB s n∧strB s n≤255:=by
  unfold strB
  split
  · rename_i b _
    have:=b.toNat_lt
    omega
  · exact⟨by decide,by decide⟩
def oc3V (op nb:List Int) (a b:Int):Int:=orL [cmp3 (op.getD a.toNat 0) (op.getD b.toNat 0),cmp3 (nb.getD b.toNat 0) (nb.getD a.toNat 0),cmp3 a b]
theorem ord1_ok (op nb:List Int) (a b:Int) (ha:0≤a∧a<op.length) (hb:0≤b∧b<op.length) (hn:nb.length=op.length) :
    Holds Tryz.prog 44 [.lit (.int .i64 a),.lit (.int .i64 b),.taddr [.tree 1 (ints op)],.taddr [.tree 1 (ints nb)]] [] (.lit (.int .i64 (oc3V op nb a b))) []:=by
  unfold oc3V
  have h1:=compare_ok (op.getD a.toNat 0) (op.getD b.toNat 0)
  have h2:=compare_ok (nb.getD b.toNat 0) (nb.getD a.toNat 0)
  have h3:=compare_ok a b
  generalize cmp3 (op.getD a.toNat 0) (op.getD b.toNat 0)=c1 at *
  generalize cmp3 (nb.getD b.toNat 0) (nb.getD a.toNat 0)=c2 at *
  generalize cmp3 a b=c3 at *
  have h4:=or_ok [c1,c2,c3] (by simp)
  refine Holds.of_body' (fn:=Tryz.f44) 30 0 [.tmp 6] Tryz.func44 rfl rfl rfl rfl rfl (by simp) ?_
  ((try revert hK K);(repeat' (first|refine Vd @hn (X3 h1 h2 h3) ?_|(refine V2 @hn ?_ ?_<;>try with_reducible intro hb)|(refine Xi ?_ ?_<;>try intro ht)|refine VD ?_ ?_|exact Xx|fail))<;>try with_reducible intro K hK)
  refine callK_snap [] h4 (by decide) trivial ⟨ArgR.frz (rows:=ints [c1,c2,c3]) rfl (ints_wid _) rfl (by simp) (ints_frz _),trivial⟩ rfl (by simp) ?_
  ((try revert hK K);(repeat' (first|refine Vb X0 ?_|(refine V2 X0 ?_ ?_<;>try with_reducible intro hb)|(refine Xi ?_ ?_<;>try intro ht)|refine VD ?_ ?_|exact Xx|fail))<;>try with_reducible intro K hK)
  exact RetOK_pure' rfl rfl
theorem slR_x {out rest:List Int} {x:Int} {j:Nat} (hj:j≤out.length):(slide out x j++rest).getD j 0=x:=by
  rw[List.getD_eq_getElem?_getD,List.getElem?_append_left (by rw[slide_len];omega),← List.getD_eq_getElem?_getD,slide_get _ _ hj]
theorem slR_p {out rest:List Int} {x:Int} {j:Nat} (hj:j+1≤out.length):(slide out x (j+1)++rest).getD j 0=out.getD j 0:=by
  rw[List.getD_eq_getElem?_getD,List.getElem?_append_left (by rw[slide_len];omega),← List.getD_eq_getElem?_getD,slide_prev _ _ hj]
theorem slR_s {out rest:List Int} {x:Int} {j:Nat} (hj:j+1≤out.length):((slide out x (j+1)++rest).set (j+1) (out.getD j 0)).set j x=slide out x j++rest:=by
  rw[List.set_append_left _ _ (by rw[slide_len];omega),List.set_append_left _ _ (by rw[List.length_set,slide_len];omega),slide_step _ _ hj]
theorem slR_t {out rest:List Int} {x:Int} {j:Nat} (hj:j+1≤out.length):((slide out x (j+1)++rest).set j x).set (j+1) (out.getD j 0)=slide out x j++rest:=by
  rw[List.set_comm _ _ (by omega),slR_s hj]
theorem ints_setne {l:List Int} {j k:Nat} (hj:j<l.length) (h:k≠j) (y:Int):(ints (l.set k y))[j]?=some [.lit (.int .i64 (l.getD j 0))]:=by
  unfold ints
  rw[List.getElem?_map,List.getElem?_set_ne h,List.getD_eq_getElem?_getD,List.getElem?_eq_getElem hj];rfl
theorem sort_next {lt:Int→Int→Bool} {xs:List Int} {i:Nat} (h:i<xs.length):sortR lt (xs.take (i+1)) []=insR lt (xs.getD i 0) (sortR lt (xs.take i) []):=by
  rw[← sortR_snoc]
  congr 1
  rw[List.take_add_one,List.getD_eq_getElem?_getD]
  rw[List.getElem?_eq_getElem h];rfl
theorem ins_ok (op nb xs:List Int) (hn:nb.length=op.length) (hx:∀ x∈xs,0≤x∧x<op.length) (hl:xs.length<1000000) :
    Holds Tryz.prog 110 [.ref 0 1 0 xs.length,.lit (.int .i64 0),.lit (.int .i64 xs.length),.fn 44 [.taddr [.tree 1 (ints op)],.taddr [.tree 1 (ints nb)]]] [.arr 1 (ints xs)] (.tup []) [.arr 1 (ints (sortR (ltP op nb) xs []))]:=by
  have hcmp:=fun a b ha hb=>ord1_ok op nb a b ha hb hn
  generalize hR:sortR (ltP op nb) xs []=R
  obtain ⟨N,hN⟩ :∃N,xs.length=N:=⟨_,rfl⟩
  have h1:sortR (ltP op nb) (xs.take 1) []++xs.drop 1=xs:=by
    cases xs with
    | nil=>rfl
    | cons y r=>rfl
  have har0:(sortR (ltP op nb) (xs.take 1) []++xs.drop 1).length=N:=by rw[h1,hN]
  rw[hN] at hl
  refine Holds.of_body' (fn:=Tryz.f110) 53 1 [] Tryz.func110 rfl rfl rfl rfl rfl (by simp) ?_
  ((try revert hK K);(repeat' (first|refine Vb @hN ?_|(refine V2 @hN ?_ ?_<;>try with_reducible intro hb)|(refine Xi ?_ ?_<;>try intro ht)|refine VD ?_ ?_|exact Xx|fail))<;>try with_reducible intro K hK)
  refine W_loopS (fun z:Nat × Int × List Int=>(⟨slots [(0,.ref 0 1 0 N),(1,.lit (.int .i64 0)),(2,.lit (.int .i64 N)),(3,.fn 44 [.taddr [.tree 1 (ints op)],.taddr [.tree 1 (ints nb)]]),(8,.lit (.int .i64 z.2.1))],[.arr 1 (ints z.2.2)]⟩:St))
    (fun z=>(z.1≤N∨z.1=1)∧z.2.1=z.1∧0<z.1∧z.2.2=sortR (ltP op nb) (xs.take z.1) []++xs.drop z.1) (fun z=>N - z.1) (1,1,xs) ⟨.inr rfl,rfl,Nat.one_pos,h1.symm⟩ (by dsimp only;exact Xv @hN) ?_
  rintro ⟨i,ix,ar⟩ ⟨hi,hix,hi0,har⟩ Ql hnl hel
  dsimp only at hi hix hi0 har ⊢
  by_cases hi':i<N
  · have hout:(sortR (ltP op nb) (xs.take i) []).length=i:=by rw[sortR_len,List.length_take];simp;omega
    have hsn:=sort_next (lt:=ltP op nb) (xs:=xs) (i:=i) (by omega)
    have hmem:∀ y∈sortR (ltP op nb) (xs.take i) [],0≤y∧y<op.length:=fun y hy=>hx y (List.mem_of_mem_take ((sortR_perm _ _ _).mem_iff.1 hy))
    have hxx:=hx _ (getD_mem (l:=xs) (i:=i) (d:=0) (by omega))
    rw[getD_drop0 xs i 0 (by omega)] at har
    unfold insR at hsn
    generalize sortR (ltP op nb) (xs.take i) []=out at *
    generalize xs.getD i 0=x at *
    have hrl:(xs.drop (i+1)).length=N - (i+1):=by rw[List.length_drop,hN]
    generalize hrest:xs.drop (i+1)=rest at *
    have hple:=posR_le (ltP op nb) x out out.length
    generalize hq:posR (ltP op nb) x out out.length=q at *
    obtain rfl:ar=slide out x out.length++rest:=by rw[har,slide_full,List.append_assoc];rfl
    have hsl:∀ j,(slide out x j++rest).length=N:=fun j=>by rw[List.length_append,slide_len];omega
    ((try revert hK K);(repeat' (first|refine Va X0 ?_|(refine V2 X0 ?_ ?_<;>try with_reducible intro hb)|(refine Xi ?_ ?_<;>try intro ht)|refine VD ?_ ?_|exact Xx|fail))<;>try with_reducible intro K hK)
    all_goals try (exfalso;omega)
    refine W_loopS (fun z:Nat × Int=>(⟨slots [(0,.ref 0 1 0 N),(1,.lit (.int .i64 0)),(2,.lit (.int .i64 N)),(3,.fn 44 [.taddr [.tree 1 (ints op)],.taddr [.tree 1 (ints nb)]]),(8,.lit (.int .i64 ix)),(9,.lit (.int .i64 z.2))],[.arr 1 (ints (slide out x z.1++rest))]⟩:St))
      (fun z=>z.1≤out.length∧z.2=z.1∧posR (ltP op nb) x out z.1=q) (fun z=>z.1) (out.length,ix) ⟨Nat.le_refl _,by dsimp only;omega,hq⟩ (Xv X0) ?_
    clear hq
    rintro ⟨j,jx⟩ ⟨hj,hjx,hrj⟩ Ql2 hnl2 hel2
    dsimp only at hj hjx hrj ⊢
    cases j with
    | zero =>
      rw[posR] at hrj
      ((try revert hK K);(repeat' (first|refine Va X0 ?_|(refine V2 X0 ?_ ?_<;>try with_reducible intro hb)|(refine Xi ?_ ?_<;>try intro ht)|refine VD ?_ ?_|exact Xx|fail))<;>try with_reducible intro K hK)
      all_goals try (exfalso;omega)
      refine hel2 _ _ rfl ?_
      clear hnl2 hel2
      repeat (first|refine Xu ?_)
      ((try revert hK K);(repeat' (first|refine Va X0 ?_|(refine V2 X0 ?_ ?_<;>try with_reducible intro hb)|(refine Xi ?_ ?_<;>try intro ht)|refine VD ?_ ?_|exact Xx|fail))<;>try with_reducible intro K hK)
      exact hnl _ (i+1,ix+1,slide out x 0++rest) ⟨by dsimp only;omega,by dsimp only;omega,by dsimp only;omega,by dsimp only;rw[hsn,hrest,hrj];rfl⟩ (by dsimp only;omega) (Xv X0)
    | succ j =>
      have e1:=slR_x (rest:=rest) (x:=x) hj
      have e2:=slR_p (rest:=rest) (x:=x) hj
      have e3:=slR_s (rest:=rest) (x:=x) hj
      have e4:=slR_t (rest:=rest) (x:=x) hj
      have e5:=hsl (j+1)
      have e6:=ints_setne (l:=slide out x (j+1)++rest) (j:=j) (k:=j+1) (by rw[e5];omega) (by omega)
      have e7:=ints_setne (l:=slide out x (j+1)++rest) (j:=j+1) (k:=j) (by rw[e5];omega) (by omega)
      rw[e2] at e6
      rw[e1] at e7
      have hb:=hmem _ (getD_mem (l:=out) (i:=j) (d:=0) (by omega))
      have hc:=hcmp x (out.getD j 0) hxx hb
      have hlt:ltP op nb x (out.getD j 0)=decide (oc3V op nb x (out.getD j 0)<0):=rfl
      rw[posR,hlt] at hrj
      generalize out.getD j 0=b at *
      generalize oc3V op nb x b=v at *
      have hj1:jx - 1=(j:Int):=by omega
      have hj2:jx.toNat=j+1:=by omega
      by_cases hv:v<0
      · rw[if_pos (decide_eq_true hv)] at hrj
        ((try revert hK K);(repeat' (first|refine Vc (X5 @e1 @e2 @e3 @e4 (X5 @e5 @e6 @e7 @hj1 (X2 @hj2 @ints_set))) hc ?_|(refine V2 (X5 @e1 @e2 @e3 @e4 (X5 @e5 @e6 @e7 @hj1 (X2 @hj2 @ints_set))) ?_ ?_<;>try with_reducible intro hb)|(refine Xi ?_ ?_<;>try intro ht)|refine VD ?_ ?_|exact Xx|fail))<;>try with_reducible intro K hK)
        all_goals try (exfalso;omega)
        all_goals exact hnl2 _ (j,(j:Int)) ⟨by dsimp only;omega,rfl,hrj⟩ (by dsimp only;omega) (Xv X0)
      · rw[if_neg (by rw[decide_eq_true_iff];exact hv)] at hrj
        ((try revert hK K);(repeat' (first|refine Vc (X5 @e1 @e2 @e5 @hj1 @hj2) hc ?_|(refine V2 (X5 @e1 @e2 @e5 @hj1 @hj2) ?_ ?_<;>try with_reducible intro hb)|(refine Xi ?_ ?_<;>try intro ht)|refine VD ?_ ?_|exact Xx|fail))<;>try with_reducible intro K hK)
        all_goals try (exfalso;omega)
        all_goals
          refine hel2 _ _ rfl ?_
          clear hnl2 hel2
          repeat (first|refine Xu ?_)
          ((try revert hK K);(repeat' (first|refine Va X0 ?_|(refine V2 X0 ?_ ?_<;>try with_reducible intro hb)|(refine Xi ?_ ?_<;>try intro ht)|refine VD ?_ ?_|exact Xx|fail))<;>try with_reducible intro K hK)
          exact hnl _ (i+1,ix+1,slide out x (j+1)++rest) ⟨by dsimp only;omega,by dsimp only;omega,by dsimp only;omega,by dsimp only;rw[hsn,hrest,← hrj];rfl⟩ (by dsimp only;omega) (Xv X0)
  · have he:sortR (ltP op nb) (xs.take i) []++xs.drop i=R:=by
      rw[List.take_of_length_le (by omega),List.drop_eq_nil_of_le (by omega),List.append_nil,hR]
    rw[he] at har
    subst har
    ((try revert hK K);(repeat' (first|refine Va X0 ?_|(refine V2 X0 ?_ ?_<;>try with_reducible intro hb)|(refine Xi ?_ ?_<;>try intro ht)|refine VD ?_ ?_|exact Xx|fail))<;>try with_reducible intro K hK)
    all_goals try (exfalso;omega)
    refine hel _ _ rfl ?_;clear hnl hel Ql
    repeat (first|refine Xu ?_)
    ((try revert hK K);(repeat' (first|refine Vb X0 ?_|(refine V2 X0 ?_ ?_<;>try with_reducible intro hb)|(refine Xi ?_ ?_<;>try intro ht)|refine VD ?_ ?_|exact Xx|fail))<;>try with_reducible intro K hK)
    exact RetOK_all rfl (Nat.le_refl _) rfl
theorem strB_lo (s:ByteArray) (n:Nat) : -9223372036854775808≤strB s n:=by have:=strB_le s n;omega
theorem strB_hi (s:ByteArray) (n:Nat):strB s n≤9223372036854775807:=by have:=strB_le s n;omega
theorem strB_wrap (s:ByteArray) (n:Nat):IntKind.i64.wrap (strB s n)=strB s n:=wrap_in ⟨strB_lo s n,strB_hi s n⟩
theorem wrap8 {n:Nat} (h:n<256):IntKind.u8.wrap (n:Int)=n:=wrap_in ⟨by show (0:Int)≤_;omega,by show _≤(255:Int);omega⟩
theorem wrap64 {n:Nat} (h:n<256):IntKind.u64.wrap (n:Int)=n:=wrap_in ⟨by show (0:Int)≤_;omega,by show _≤(18446744073709551615:Int);omega⟩
theorem len64_ok (n:Nat) (hn:n<256) :∃k:Int,Holds Tryz.prog 119 [.lit (.int .u64 n)] [] (.lit (.int .i64 k)) []:=by
  refine⟨?_,?_⟩
  rotate_left
  have h8:=wrap8 hn
  refine Holds.of_body' (fn:=Tryz.f119) 25 0 [.tmp 2] Tryz.func119 rfl rfl rfl rfl rfl (by simp) ?_
  ((try revert hK K);(repeat' (first|refine Vb (X4 @h8 @strB_wrap @Int.zero_add @Option.isSome_some.{0}) ?_|(refine V2 (X4 @h8 @strB_wrap @Int.zero_add @Option.isSome_some.{0}) ?_ ?_<;>try with_reducible intro hb)|(refine Xi ?_ ?_<;>try intro ht)|refine VD ?_ ?_|exact Xx|fail))<;>try with_reducible intro K hK)
  all_goals try (exfalso;omega)
  · refine Int.ofNat_lt.2 (Nat.lt_of_lt_of_le hn ?_)
    decide +kernel
  · exact strB_lo _ _
  · exact strB_hi _ _
  refine RetOK_pure' ?_ ?_
  rotate_left
  rfl
  rfl
theorem len_ok (n:Nat) (hn:n<256) :∃k:Int,Holds Tryz.prog 91 [.lit (.int .u64 n)] [] (.lit (.int .i64 k)) []:=by
  obtain ⟨k,hk⟩:=len64_ok n hn
  refine⟨k,?_⟩
  refine Holds.of_body' (fn:=Tryz.f91) 8 0 [.tmp 2] Tryz.func91 rfl rfl rfl rfl rfl (by simp) ?_
  ((try revert hK K);(repeat' (first|refine Vd X0 hk ?_|(refine V2 X0 ?_ ?_<;>try with_reducible intro hb)|(refine Xi ?_ ?_<;>try intro ht)|refine VD ?_ ?_|exact Xx|fail))<;>try with_reducible intro K hK)
  exact RetOK_pure' rfl rfl
theorem pdq_ok (op nb xs:List Int) (k:Int) (hn:nb.length=op.length) (hx:∀ x∈xs,0≤x∧x<op.length) (hl:xs.length≤12) :
    Holds Tryz.prog 90 [.ref 0 1 0 xs.length,.lit (.int .i64 0),.lit (.int .i64 xs.length),.lit (.int .i64 k),.fn 44 [.taddr [.tree 1 (ints op)],.taddr [.tree 1 (ints nb)]]] [.arr 1 (ints xs)] (.tup []) [.arr 1 (ints (sortR (ltP op nb) xs []))]:=by
  have h1:=ins_ok op nb xs hn hx (by omega)
  have hRl:=sortR_len (ltP op nb) xs []
  generalize sortR (ltP op nb) xs []=R at *
  refine Holds.of_body' (fn:=Tryz.f90) 148 1 [] Tryz.func90 rfl rfl rfl rfl rfl (by simp) ?_
  ((try revert hK K);(repeat' (first|refine Vb X0 ?_|(refine V2 X0 ?_ ?_<;>try with_reducible intro hb)|(refine Xi ?_ ?_<;>try intro ht)|refine VD ?_ ?_|exact Xx|fail))<;>try with_reducible intro K hK)
  refine W_loopS (fun _:Unit=>(⟨slots [(0,.ref 0 1 0 xs.length),(1,.lit (.int .i64 0)),(2,.lit (.int .i64 xs.length)),(4,.fn 44 [.taddr [.tree 1 (ints op)],.taddr [.tree 1 (ints nb)]])],[.arr 1 (ints xs)]⟩:St)) (fun _=>True) (fun _=>0) () trivial (Xv X0) ?_
  rintro ⟨⟩ _ Ql hnl hel
  ((try revert hK K);(repeat' (first|refine Va X0 ?_|(refine V2 X0 ?_ ?_<;>try with_reducible intro hb)|(refine Xi ?_ ?_<;>try intro ht)|refine VD ?_ ?_|exact Xx|fail))<;>try with_reducible intro K hK)
  all_goals try (exfalso;omega)
  refine callK_all h1 (Nat.le_refl _) ?_
  ((try revert hK K);(repeat' (first|refine Va X0 ?_|(refine V2 X0 ?_ ?_<;>try with_reducible intro hb)|(refine Xi ?_ ?_<;>try intro ht)|refine VD ?_ ?_|exact Xx|fail))<;>try with_reducible intro K hK)
  all_goals try (exfalso;omega)
  repeat (first|refine Xu ?_|(refine hel2 _ _ rfl ?_;clear hnl2 hel2;try clear Ql2)|(refine hel3 _ _ rfl ?_;clear hnl3 hel3;try clear Ql3)|(refine hel4 _ _ rfl ?_;clear hnl4 hel4;try clear Ql4))
  ((try revert hK K);(repeat' (first|refine Vb X0 ?_|(refine V2 X0 ?_ ?_<;>try with_reducible intro hb)|(refine Xi ?_ ?_<;>try intro ht)|refine VD ?_ ?_|exact Xx|fail))<;>try with_reducible intro K hK)
  exact RetOK_all rfl (Nat.le_refl _) rfl
theorem sort_ok (op nb xs:List Int) (hn:nb.length=op.length) (hx:∀ x∈xs,0≤x∧x<op.length) (hl:xs.length≤12) :
    Holds Tryz.prog 43 [.ref 0 1 0 xs.length,.fn 44 [.taddr [.tree 1 (ints op)],.taddr [.tree 1 (ints nb)]]] [.arr 1 (ints xs)] (.tup []) [.arr 1 (ints (sortR (ltP op nb) xs []))]:=by
  obtain ⟨k,hk⟩:=len_ok xs.length (by omega)
  have h1:=pdq_ok op nb xs k hn hx hl
  refine Holds.of_body' (fn:=Tryz.f43) 14 1 [] Tryz.func43 rfl rfl rfl rfl rfl (by simp) ?_
  have hw:=wrap64 (n:=xs.length) (by omega)
  ((try revert hK K);(repeat' (first|refine Vd (X2 @hw @Option.isSome_some.{0}) hk ?_|(refine V2 (X2 @hw @Option.isSome_some.{0}) ?_ ?_<;>try with_reducible intro hb)|(refine Xi ?_ ?_<;>try intro ht)|refine VD ?_ ?_|exact Xx|fail))<;>try with_reducible intro K hK)
  refine callK_all h1 (Nat.le_refl _) ?_
  ((try revert hK K);(repeat' (first|refine Vb X0 ?_|(refine V2 X0 ?_ ?_<;>try with_reducible intro hb)|(refine Xi ?_ ?_<;>try intro ht)|refine VD ?_ ?_|exact Xx|fail))<;>try with_reducible intro K hK)
  exact RetOK_all rfl (Nat.le_refl _) rfl
end T

