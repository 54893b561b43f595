import Derived.Test.YtdipcmigdbnheaaGreatX15
import Derived.Test.YtdipcmigdbnheaaGreatX21
import Derived.Test.YtdipcmigdbnheaaGreatX18
set_option linter.unusedVariables false
set_option linter.unusedSimpArgs false
set_option linter.unnecessarySimpa false
set_option linter.unusedSectionVars false
set_option maxHeartbeats 64000000
set_option maxRecDepth 20000
open List renaming mem_cons→bZ,not_mem_nil→kC,range→aT,getD_eq_getElem?_getD→ay,getElem?_map→bN,getElem?_range→j3,ext_getElem?→ju,getElem?_set→bS,getElem?_eq_none→du,replicate→bq,length_append→bJ,flatMap_append→oN,all_eq_true→fK,mem_range→mA,length→nL,getElem?_eq_getElem→bI,take_zero→lx,getElem_of_mem→p9,length_take→ez,append_assoc→cI,take_length→sy,length_drop→tQ,mem_map→b7,getElem?_eq_some_iff→aS,map_cons→cR,nodup_cons→re,Perm→qa,length_set→bm,mem_filter→yy
open Option renaming map_some→ed,some→da
open Bool renaming eq_false_iff→yA,and_false→KX,false_and→qc,true_and→g9
open Nat renaming zero_le→aD,not_lt_zero→mV
open Go Go.Am
open Go Go.Am Go.Proofs
open Nat (reduceEqDiff reduceAdd reduceLeDiff reduceMul)
open Int (reduceNeg reduceLE reduceToNat)
namespace T
structure Nd where
  cls:Int
  kids:List Int
  cY:List Mv
  cM:List Int
  cells:List (List (Int × Int))
  deriving Inhabited
def Ib (l:List (Int × Int)):List AV:=[.tree 2 (rowsOf aG l)]
instance:Row Ib 1:=⟨fun _=>rfl,fun x v hv=>by
  simp only[Ib,bZ,kC,or_false] at hv
  subst hv;exact .inr ⟨_,_,rfl⟩⟩
def aM (x:Nd):List AV:=[.lit (.int .i64 x.cls),.tree 1 (ints x.kids),.tree 4 (rowsOf fO x.cY),.tree 1 (ints x.cM),.tree 1 (rowsOf Ib x.cells)]
instance:Row aM 5:=⟨fun _=>rfl,fun x v hv=>by
  simp only[aM,bZ,kC,or_false] at hv
  rcases hv with rfl | rfl | rfl | rfl | rfl
  · exact .inl ⟨_,rfl,rfl⟩
  all_goals exact .inr ⟨_,_,rfl⟩⟩
def aJ (P:List Nd):List AV:=[.tree 5 (rowsOf aM P)]
structure PB (P:List Nd):Prop where
  zB:P.length<9223372036854775808
  kids:∀ x∈P,x.kids.length<9223372036854775808
  cY:∀ x∈P,x.cY.length<9223372036854775808
  cM:∀ x∈P,x.cM.length<9223372036854775808
  cells:∀ x∈P,x.cells.length<9223372036854775808
  cell:∀ x∈P,∀ l∈x.cells,l.length<9223372036854775808
def lh (m:ah) (x:Nd):Bool :=
  if x.cls = -1 then decide (x.kids.length=0∧(x.cM.length=0→x.cells.length=0)∧(0<x.cM.length→x.cY.length=0))
  else decide (0≤x.cls∧x.cls<m.cls.length∧x.kids.length=(m.cls.getD x.cls.toNat default).length∧x.cY.length=0∧x.cM.length=0∧x.cells.length=0)
def kl (n i:Nat) (k:Int):Bool:=decide ((i:Int)<k∧k<n)
def jQ (m:ah) (n i:Nat) (x:Nd):Bool:=lh m x && x.kids.all (kl n i)
def eG (P:List Nd):List Int:=P.flatMap (·.kids)
def iU (n:Nat) (l:List Int):List Int:=(aT n).map fun (j:Nat)=>(l.count (j:Int):Int)
def iK (m:ah) (P:List Nd):Bool :=
  decide (1≤P.length∧P.length≤20000) && ((aT P.length).all fun i=>jQ m P.length i (P.getD i default)) && !((iU P.length (eG P)).drop 1).any (fun x=>x != 1)
theorem xD (n:Nat) (l:List Int):(iU n l).length=n:=by simp[iU]
theorem Ew {n:Nat} (l:List Int) {j:Nat} (h:j<n):(iU n l).getD j 0=(l.count (j:Int):Int):=by
  unfold iU
  rw[ay,bN,j3 h];rfl
theorem aaK (n:Nat) (l:List Int) (k:Nat) (h:k<n):iU n (l++[(k:Int)])=(iU n l).set k ((iU n l).getD k 0+1):=by
  apply ju
  intro j
  rw[bS,Ew l h]
  unfold iU
  rw[bN,List.length_map,List.length_range]
  by_cases hj:j<n
  · rw[j3 hj,ed,List.count_append]
    by_cases e:k=j
    · subst e;rw[if_pos rfl,if_pos h];simp
    · rw[if_neg e,bN,j3 hj,ed]
      have:((k:Int) == (j:Int))=false:=by rw[beq_eq_false_iff_ne];omega
      simp[List.count_cons,this]
  · rw[du (by simpa using hj)]
    split
    · omega
    · rw[du (by simpa using hj)];rfl
theorem aaL (n:Nat):iU n []=bq n 0:=by
  apply ju
  intro j
  unfold iU
  rw[bN,List.getElem?_replicate]
  by_cases hj:j<n
  · rw[j3 hj,if_pos hj];rfl
  · rw[du (by simpa using hj),if_neg hj];rfl
theorem BE {m:ah} {x:Nd} (hm:VM m) (h:lh m x=true):x.kids.length≤24:=by
  unfold lh at h
  split at h
  · rw[decide_eq_true_eq] at h;omega
  · rw[decide_eq_true_eq] at h
    have:=hm.opt _ (az (l:=m.cls) (i:=x.cls.toNat) (d:=default) (by omega))
    omega
theorem Ou {m:ah} {n:Nat} (hm:VM m):∀ (P:List Nd),(∀ x∈P,lh m x=true)→(eG P).length≤24 * P.length
  | [],_=>by simp[eG]
  | x::r,h=>by
    have h1:=BE hm (h x (by simp))
    have h2:=Ou (n:=n) hm r fun y hy=>h y (by simp[hy])
    unfold eG at h2 ⊢
    rw[List.flatMap_cons,bJ,List.length_cons];omega
theorem aaM {n:Nat} {l:List Int} {j:Nat} (h:j<n):0≤(iU n l).getD j 0∧(iU n l).getD j 0≤l.length:=by
  rw[Ew l h]
  have:=List.count_le_length (a:=(j:Int)) (l:=l)
  omega
theorem Ic (P:List Nd) (x:Nd):eG (P++[x])=eG P++x.kids:=by unfold eG;rw[oN];simp
theorem Ov {m:ah} {P:List Nd} {i:Nat} (hi:i<P.length) (h:jQ m P.length i (P.getD i default)=false):iK m P=false:=by
  unfold iK
  have:((aT P.length).all fun i=>jQ m P.length i (P.getD i default))=false:=by
    rw[yA]
    intro h2
    rw[fK] at h2
    rw[h2 i (mA.2 hi)] at h
    cases h
  rw[this,KX,qc]
theorem Ow {m:ah} {P:List Nd} (h:¬(1≤P.length∧P.length≤20000)):iK m P=false:=by
  unfold iK;rw[decide_eq_false h,qc,qc]
theorem Ex {m:ah} {P:List Nd} (h:1≤P.length∧P.length≤20000) (ha:∀ i,i<P.length→jQ m P.length i (P.getD i default)=true):iK m P = !((iU P.length (eG P)).drop 1).any (fun x=>x != 1):=by
  unfold iK
  have:((aT P.length).all fun i=>jQ m P.length i (P.getD i default))=true:=by
    rw[fK];intro i hi;exact ha i (mA.1 hi)
  rw[this,decide_eq_true h,g9,g9]
end T
namespace T
def lI (w o:Nat):List Bool:=(bq w false).set o true
def bF (left:List (List Bool)) (c o:Nat):List (List Bool):=left.set c (lI (left.getD c default).length o)
theorem H4 (w o:Nat):(lI w o).length=w:=by simp[lI]
theorem Er (left:List (List Bool)) (c o:Nat):(bF left c o).map nL=left.map nL:=by
  unfold bF
  apply ju
  intro j
  rw[bN,bN,bS]
  split
  · rename_i e;subst e
    split
    · rename_i h2;rw[bI h2];simp[H4,h2]
    · rename_i h2;rw[du (by omega)]
  · rfl
theorem Es {σ:St} {kp:Nat→Prop} {c d:List AV} (h:∀ v∈c,(∃ x,v=AV.lit x)∨∃ s r,v=AV.tree s r) (e:d=c):fD (bV σ kp) c d:=by
  subst e
  induction d with
  | nil=>trivial
  | cons v l ih =>
    refine⟨?_,ih fun x hx=>h x (by simp[hx])⟩
    rcases h v (by simp) with ⟨x,rfl⟩ | ⟨s,r,rfl⟩
    · exact .lit _
    · exact .tree _ _
theorem aaN {σ:St} {kp:Nat→Prop} {oi k c:Nat} {left:List (List Bool)} {r:List Bool} (hc:c<left.length) (ho:σ.aa[oi]?=some (.arr 1 ((rowsOf aE left).set c [.ref k 1 0 r.length]))) (hk:¬ kp oi) (hr:σ.aa[k]?=some (.arr 1 (bg r))) (AK:¬ kp k) :
    bV σ kp (.tree 1 (rowsOf aE (left.set c r))) (.ref oi 1 0 left.length) :=
  bV.mk ho (by simp[rowsOf]) hk (fZ _) (iF.xB (f:=fun _=>[]) (g:=fun _=>[]) (by simp[rowsOf]) fun j x d hx hd=>by
    unfold rowsOf at hx hd
    rw[bN,bS] at hx
    rw[bS] at hd
    by_cases e:c=j
    · subst e
      rw[if_pos rfl,if_pos hc] at hx
      rw[if_pos rfl,if_pos (by simpa using hc)] at hd
      cases hx;cases hd
      exact⟨Ox hr AK,trivial⟩
    · rw[if_neg e] at hx hd
      rw[bN] at hd
      rw[hx] at hd
      simp only[da.injEq] at hd
      cases hl:left[j]? with
      | none=>rw[hl] at hx;cases hx
      | some y =>
        rw[hl] at hx
        simp only[ed,da.injEq] at hx
        subst hx
        exact Es (fun v hv=>by simp only[aE,List.mem_singleton] at hv;exact .inr ⟨_,_,hv⟩) hd.symm)
end T
namespace T
theorem aaO (n:Int):ao Tryz.prog 169 [.lit (.int .i64 n)] [] (.lit (.bool (n != 1))) []:=by
  refine ao.aF (fn:=Tryz.f169) 5 0 [.tmp 2] Tryz.func169 rfl rfl rfl rfl rfl (by simp) ?_
  refine Vb X0 ?_
  exact aC rfl rfl
theorem aaP (m:ah) (P:List Nd) (hm:VM m) (hP:PB P):ao Tryz.prog 125 [.agg (ar m),.agg (aJ P)] [] (.lit (.bool (iK m P))) []:=by
  have xE:=hP.zB
  have mc:=hm.cls
  generalize an:iK m P=res
  refine ao.aF (fn:=Tryz.f125) 136 0 [.tmp 4] Tryz.func125 rfl rfl rfl rfl rfl (by simp) ?_
  by_cases aW:1≤P.length∧P.length≤20000
  rotate_left
  · rw[Ow aW] at an
    subst an
    ((repeat' (first|refine Vb @aJ.eq_1 ?_|(refine V2 @aJ.eq_1 ?_ ?_<;>try with_reducible intro hb)|(refine Xi ?_ ?_<;>try intro ht)|exact Xx|fail)))
    all_goals exact aC rfl rfl
  obtain ⟨jL,iD⟩:=aW
  ((repeat' (first|refine Vb @aJ.eq_1 ?_|(refine V2 @aJ.eq_1 ?_ ?_<;>try with_reducible intro hb)|(refine Xi ?_ ?_<;>try intro ht)|exact Xx|fail)))
  refine aI (fun i:Nat=>(⟨av [(2,.ptr 0 0 0),(3,.ptr 1 0 0),(5,.ref 2 1 0 P.length),(25,.tree 5 (rowsOf aM P)),(26,.lit (.int .i64 P.length)),(27,.lit (.int .i64 i))],[.var (ar m),.var (aJ P),.arr 1 (ints (iU P.length (eG (P.take i))))]⟩:St))
    (fun i=>i≤P.length∧∀ a,a<i→jQ m P.length a (P.getD a default)=true) (fun i=>P.length - i) 0 ⟨aD _,fun a ha=>absurd ha (mV _)⟩ (by rw[lx];show aA _ _ ⟨_,[_,_,.arr 1 (ints (iU P.length []))]⟩;rw[aaL];exact Xv (X2 @aJ.eq_1 @yQ)) ?_
  rintro i ⟨hi,fq⟩ Ql ak aq
  by_cases hi':i<P.length
  · have cp:=az (l:=P) (i:=i) (d:=default) hi'
    have b1:=hP.kids _ cp
    have b2:=hP.cY _ cp
    have b3:=hP.cM _ cp
    have b4:=hP.cells _ cp
    have cS:=eu hi'
    have Ey:∀ l,eG (P.take (i+1))=eG (P.take i)++l↔l=(P.getD i default).kids:=fun l=>by rw[cS,Ic];exact⟨fun h=>(List.append_cancel_left h).symm,fun h=>by rw[h]⟩
    have lj:=Ov (m:=m) hi'
    have hlen:=Ou (n:=0) hm (P.take i) fun y hy=>by
      obtain ⟨a,ha,rfl⟩:=p9 hy
      rw[ez] at ha
      have:=fq a (by omega)
      unfold jQ at this
      rw[Bool.and_eq_true,ay,bI (by omega)] at this
      simpa using this.1
    rw[ez] at hlen
    generalize bA:P.getD i default=x at *
    obtain ⟨c,kids,cY,cM,cells⟩:=x
    dsimp only at b1 b2 b3 b4 Ey
    have Ey:=(Ey _).2 rfl
    have bR:¬(lh m ⟨c,kids,cY,cM,cells⟩=true)→res=false:=fun h=>by
      rw[← an]
      refine lj ?_
      unfold jQ
      rw[yA.2 h,qc]
    have oa:∀ j,j<kids.length→¬(kl P.length i (kids.getD j 0)=true)→res=false:=fun j hj h=>by
      rw[← an]
      refine lj ?_
      unfold jQ
      have:kids.all (kl P.length i)=false:=by
        rw[yA]
        intro h2
        rw[fK] at h2
        exact h (h2 _ (az hj))
      dsimp only
      rw[this,KX]
    clear lj
    generalize mf:m.cls.getD c.toNat default=wl at *
    have vQ:0≤c∧c<m.cls.length→wl.length≤24:=fun h=>by rw[← mf];exact hm.opt _ (az (by omega))
    by_cases eH:lh m ⟨c,kids,cY,cM,cells⟩=true
    rotate_left
    · have hr:=bR eH
      unfold lh at eH
      dsimp only at eH
      rw[mf] at eH
      by_cases eB:c = -1
      · rw[if_pos eB,decide_eq_true_eq] at eH
        ((repeat' (first|refine Va (X3 @aJ.eq_1 @bA @aM.eq_1) ?_|(refine V2 (X3 @aJ.eq_1 @bA @aM.eq_1) ?_ ?_<;>try with_reducible intro hb)|(refine Xi ?_ ?_<;>try intro ht)|exact Xx|fail)))
        all_goals
          repeat (refine Xu ?_)
          ((repeat' (first|refine Vb X0 ?_|fail)))
          exact aC rfl (by rw[hr])
      · rw[if_neg eB,decide_eq_true_eq] at eH
        by_cases aQ:0≤c∧c<m.cls.length
        · have vQ:=vQ aQ
          ((repeat' (first|refine Va (X5 @aJ.eq_1 @bA @aM.eq_1 @mf @bn.eq_1) ?_|(refine V2 (X5 @aJ.eq_1 @bA @aM.eq_1 @mf @bn.eq_1) ?_ ?_<;>try with_reducible intro hb)|(refine Xi ?_ ?_<;>try intro ht)|exact Xx|fail)))
          all_goals
            repeat (refine Xu ?_)
            ((repeat' (first|refine Vb X0 ?_|fail)))
            exact aC rfl (by rw[hr])
        · ((repeat' (first|refine Va (X3 @aJ.eq_1 @bA @aM.eq_1) ?_|(refine V2 (X3 @aJ.eq_1 @bA @aM.eq_1) ?_ ?_<;>try with_reducible intro hb)|(refine Xi ?_ ?_<;>try intro ht)|exact Xx|fail)))
          all_goals
            repeat (refine Xu ?_)
            ((repeat' (first|refine Vb X0 ?_|fail)))
            exact aC rfl (by rw[hr])
    have BF:=BE hm eH
    have sZ:(∀ j,j<kids.length→kl P.length i (kids.getD j 0)=true)→jQ m P.length i ⟨c,kids,cY,cM,cells⟩=true:=fun h=>by
      unfold jQ
      rw[eH,g9,fK]
      intro k hk
      obtain ⟨j,hj,rfl⟩:=p9 hk
      have:=h j hj
      rwa [ay,bI hj] at this
    dsimp only at BF
    repeat' (first|((fail_if_success (first|refine im 7 ?_|refine iq 7 ?_));refine Xr (X3 @aJ.eq_1 @bA @aM.eq_1) ?_;intro K hK)|(refine hK _ ?_;clear hK K)|(refine Xi ?_ ?_<;>try intro ht)|refine Xy ?_|refine Xd ?_ ?_|exact Xx|fail)
    (refine aaQ ?_);intro Q0 cV nk
    refine vt ⟨av [(2,.ptr 0 0 0),(3,.ptr 1 0 0),(5,.ref 2 1 0 P.length),(6,.lit (.int .i64 i)),(7,.ptr 3 0 0),(25,.tree 5 (rowsOf aM P)),(26,.lit (.int .i64 P.length)),(27,.lit (.int .i64 i))],[.var (ar m),.var (aJ P),.arr 1 (ints (iU P.length (eG (P.take i)))),.var (aM ⟨c,kids,cY,cM,cells⟩)]⟩ cV ?_ (fun key=>?_)
    rotate_left
    · (try clear cV)
      unfold lh at eH
      dsimp only at eH
      rw[mf] at eH
      by_cases eB:c = -1
      · rw[if_pos eB,decide_eq_true_eq] at eH
        ((repeat' (first|refine Va (X3 @aJ.eq_1 @bA @aM.eq_1) ?_|(refine V2 (X3 @aJ.eq_1 @bA @aM.eq_1) ?_ ?_<;>try with_reducible intro hb)|(refine Xi ?_ ?_<;>try intro ht)|exact Xx|fail)))
        all_goals
          refine key _ ?_
          exact Xv (X2 @aJ.eq_1 @aM.eq_1)
      · rw[if_neg eB,decide_eq_true_eq] at eH
        have vQ:=vQ ⟨eH.1,eH.2.1⟩
        ((repeat' (first|refine Va (X5 @aJ.eq_1 @bA @aM.eq_1 @mf @bn.eq_1) ?_|(refine V2 (X5 @aJ.eq_1 @bA @aM.eq_1 @mf @bn.eq_1) ?_ ?_<;>try with_reducible intro hb)|(refine Xi ?_ ?_<;>try intro ht)|exact Xx|fail)))
        all_goals
          refine key _ ?_
          exact Xv (X2 @aJ.eq_1 @aM.eq_1)
    (try clear cV;try clear nk)
    refine Va (X2 @aJ.eq_1 @aM.eq_1) ?_
    refine aI (fun j:Nat=>(⟨av [(2,.ptr 0 0 0),(3,.ptr 1 0 0),(5,.ref 2 1 0 P.length),(6,.lit (.int .i64 i)),(25,.tree 5 (rowsOf aM P)),(26,.lit (.int .i64 P.length)),(27,.lit (.int .i64 i)),(108,.tree 1 (ints kids)),(109,.lit (.int .i64 kids.length)),(110,.lit (.int .i64 j))],[.var (ar m),.var (aJ P),.arr 1 (ints (iU P.length (eG (P.take i)++kids.take j)))]⟩:St))
      (fun j=>j≤kids.length∧∀ a,a<j→kl P.length i (kids.getD a 0)=true) (fun j=>kids.length - j) 0 ⟨aD _,fun a ha=>absurd ha (mV _)⟩ (by rw[lx,List.append_nil];exact Xs false [0,1,2] @aJ.eq_1) ?_
    rintro j ⟨hj,Oy⟩ cP a5 a8
    by_cases dZ:j<kids.length
    · have km:=eu dZ
      have BG:kids.getD j default=kids.getD j 0:=rfl
      have aaR:=oa j dZ
      rw[BG] at km
      have sQ:(eG (P.take i)++kids.take j).length≤24 * P.length+24:=by rw[bJ,ez];omega
      generalize iT:kids.getD j 0=k at *
      by_cases BH:kl P.length i k=true
      rotate_left
      · have hr:=aaR BH
        unfold kl at BH
        rw[decide_eq_true_eq] at BH
        ((repeat' (first|refine Va (X2 @aJ.eq_1 @iT) ?_|(refine V2 (X2 @aJ.eq_1 @iT) ?_ ?_<;>try with_reducible intro hb)|(refine Xi ?_ ?_<;>try intro ht)|exact Xx|fail)))
        all_goals
          repeat (refine Xu ?_)
          ((repeat' (first|refine Vb X0 ?_|fail)))
          exact aC rfl (by rw[hr])
      have Oz:=BH
      unfold kl at Oz
      rw[decide_eq_true_eq] at Oz
      have rN:=aaM (n:=P.length) (l:=eG (P.take i)++kids.take j) (j:=k.toNat) (by omega)
      have dz:=xD P.length (eG (P.take i)++kids.take j)
      have mI:=aaK P.length (eG (P.take i)++kids.take j) k.toNat (by omega)
      rw[Int.toNat_of_nonneg (by omega),cI,← km] at mI
      ((repeat' (first|refine Va (X3 @aJ.eq_1 @iT @dz) ?_|(refine V2 (X3 @aJ.eq_1 @iT @dz) ?_ ?_<;>try with_reducible intro hb)|(refine Xi ?_ ?_<;>try intro ht)|exact Xx|fail)))
      refine a5 _ (j+1) ⟨by omega,fun a ha=>?_⟩ (by omega) (by rw[mI];exact Xv @aJ.eq_1)
      by_cases e:a=j
      · subst e;rw[iT];exact BH
      · exact Oy a (by omega)
    · obtain rfl:j=kids.length:=by omega
      rw[sy,← Ey]
      ((repeat' (first|refine Va X0 ?_|(refine V2 X0 ?_ ?_<;>try with_reducible intro hb)|(refine Xi ?_ ?_<;>try intro ht)|exact Xx|fail)))
      refine a8 _ _ rfl ?_
      clear a5 a8 cP
      repeat (refine Xu ?_)
      refine Va X0 ?_
      refine ak _ (i+1) ⟨by omega,fun a ha=>?_⟩ (by omega) (Xv @aJ.eq_1)
      by_cases e:a=i
      · subst e;rw[bA];exact sZ Oy
      · exact fq a (by omega)
  · obtain rfl:i=P.length:=by omega
    rw[sy]
    have lg:=Ex (m:=m) ⟨jL,iD⟩ fq
    rw[an] at lg
    have HY:=OA ((iU P.length (eG P)).drop 1) 169 [] [] (fun x=>x != 1) (by rw[tQ,xD];omega) (fun x _=>aaO x)
    have dz:=xD P.length (eG P)
    have rT:(ints (iU P.length (eG P))).drop 1=ints ((iU P.length (eG P)).drop 1):=by unfold ints;rw[List.map_drop]
    have xF:((iU P.length (eG P)).drop 1).length=P.length - 1:=by rw[tQ,xD]
    ((repeat' (first|refine Va X0 ?_|(refine Xi ?_ ?_<;>try intro ht)|exact Xx|fail)))
    refine aq _ _ rfl ?_;clear ak aq Ql
    repeat (refine Xu ?_)
    generalize iU P.length (eG P)=pc at *
    refine cA (σ':=⟨av [(5,.tree 1 (ints pc))],[]⟩) (by rw[← dz];exact Xs true [] X0) ?_
    ((repeat' (first|refine Vd (X4 @dz @rT @xF @Option.map_none.{0,0}) HY ?_|refine VD ?_ ?_|fail)))
    · intro _;trivial
    exact aC rfl (by rw[lg])
end T
namespace T
structure Fc (C:List (Nat × Ob)) (os:List Ob):Prop where
  at_:∀ b∈C,os[b.1]?=some b.2
  nd:(C.map (·.1)).Nodup
section
variable {C D:List (Nat × Ob)} {os:List Ob}
theorem Fc.b0 {a:Nat × Ob} (h:Fc (a::C) os):os[a.1]?=some a.2:=h.at_ a (by simp)
theorem Fc.b1 {a b:Nat × Ob} (h:Fc (a::b::C) os):os[b.1]?=some b.2:=h.at_ b (by simp)
theorem Fc.b2 {a b c:Nat × Ob} (h:Fc (a::b::c::C) os):os[c.1]?=some c.2:=h.at_ c (by simp)
theorem Fc.b3 {a b c d:Nat × Ob} (h:Fc (a::b::c::d::C) os):os[d.1]?=some d.2:=h.at_ d (by simp)
theorem Fc.app (h:Fc C os) (l:List Ob):Fc C (os++l):=⟨fun b hb=>a7 (h.at_ b hb) l,h.nd⟩
theorem Fc.perm (h:Fc C os) (hp:C.Perm D):Fc D os:=⟨fun b hb=>h.at_ b (hp.mem_iff.2 hb),((hp.map (·.1)).nodup_iff).1 h.nd⟩
theorem Fc.front {b:Nat × Ob} (A:List (Nat × Ob)) (h:Fc (A++b::C) os):Fc (b::(A++C)) os:=h.perm List.perm_middle
theorem Fc.fresh (h:Fc C os) {p:Nat} (hp:os.length≤p):p ∉ C.map (·.1):=fun hh=>by
  obtain ⟨q,hq,rfl⟩:=b7.1 hh
  have:=(aS.1 (h.at_ q hq)).1
  omega
theorem Fc.other (h:Fc C os) {i:Nat} (hi:i ∉ C.map (·.1)) (y:Ob):Fc C (os.set i y) :=
  ⟨fun b hb=>by rw[List.getElem?_set_ne (fun e=>hi (b7.2 ⟨b,hb,e.symm⟩))];exact h.at_ b hb,h.nd⟩
theorem Fc.add (h:Fc C os) {k:Nat} {x:Ob} (hk:os[k]?=some x) (hf:k ∉ C.map (·.1)):Fc ((k,x)::C) os :=
  ⟨fun b hb=>by rcases bZ.1 hb with rfl | hb;exact hk;exact h.at_ b hb,by rw[cR,re];exact⟨hf,h.nd⟩⟩
theorem Fc.drop {i:Nat} {x:Ob} (h:Fc ((i,x)::C) os):Fc C os∧i ∉ C.map (·.1):=by
  have hn:=h.nd
  rw[cR,re] at hn
  exact⟨⟨fun b hb=>h.at_ b (by simp[hb]),hn.2⟩,hn.1⟩
theorem Fc.put {i:Nat} {x:Ob} (h:Fc ((i,x)::C) os) (y:Ob):Fc ((i,y)::C) (os.set i y):=by
  obtain ⟨h1,h2⟩:=h.drop
  exact (h1.other h2 y).add (jk h.b0) h2
theorem Fc.kill {i:Nat} {x:Ob} (h:Fc ((i,x)::C) os) (y:Ob):Fc C (os.set i y):=by
  obtain ⟨h1,h2⟩:=h.drop
  exact h1.other h2 y
theorem Fc.sub (h:Fc (C++D) os):Fc C os:=⟨fun b hb=>h.at_ b (List.mem_append_left _ hb),by
  have:=h.nd
  rw[List.map_append,List.nodup_append] at this
  exact this.1⟩
end
structure Rw where
  c:Int
  zA:Option (Nat × List Int)
  mv:Option (Nat × List Mv)
instance:Inhabited Rw:=⟨⟨0,none,none⟩⟩
def kE:Option (Nat × List Int)→AV
  | none=>.lit (.slice none 0 0)
  | some x=>.ref x.1 1 0 x.2.length
def mE:Option (Nat × List Mv)→AV
  | none=>.lit (.slice none 0 0)
  | some x=>.ref x.1 4 0 x.2.length
def b6 (r:Rw):List AV:=[.lit (.int .i64 r.c),kE r.zA,mE r.mv,.lit (.slice none 0 0),.lit (.slice none 0 0)]
def kO:Option (Nat × List Int)→List (Nat × Ob)
  | none=>[]
  | some x=>[(x.1,.arr 1 (ints x.2))]
def mO:Option (Nat × List Mv)→List (Nat × Ob)
  | none=>[]
  | some x=>[(x.1,.arr 4 (rowsOf fO x.2))]
def lJ (r:Rw):List (Nat × Ob):=kO r.zA++mO r.mv
def eY (R:List Rw):List (Nat × Ob):=R.flatMap lJ
def cD:Rw:=⟨-1,none,none⟩
theorem BC (A B:List Rw):eY (A++B)=eY A++eY B:=by unfold eY;rw[oN]
theorem Eu (r:Rw):eY [r]=lJ r:=by simp[eY]
theorem Oa (R:List Rw):(rowsOf b6 R).length=R.length:=by simp[rowsOf]
theorem aak (R:List Rw) (r:Rw):rowsOf b6 R++[b6 r]=rowsOf b6 (R++[r]):=by simp[rowsOf]
theorem Ev {α:Type} (a b c:List α):(a++(b++c)).Perm (b++(a++c)):=by
  rw[← cI,← cI]
  exact qa.append_right _ List.perm_append_comm
theorem Ol {R:List Rw} {j:Nat} (hj:j<R.length) (r:Rw):(lJ (R.getD j default)++eY (R.set j r)).Perm (lJ r++eY R):=by
  have h1:R=R.take j++R.getD j default::R.drop (j+1):=by
    rw[ay,bI hj,Option.getD_some,List.getElem_cons_drop,List.take_append_drop]
  have h2:R.set j r=R.take j++r::R.drop (j+1):=by rw[List.set_eq_take_append_cons_drop,if_pos hj]
  generalize R.getD j default=x at *
  generalize R.take j=A at *
  generalize R.drop (j+1)=B at *
  rw[h2,h1]
  have h3:∀ y,eY (A++y::B)=eY A++(lJ y++eY B):=fun y=>by rw[show A++y::B=A++([y]++B) from rfl,BC,BC,Eu]
  rw[h3,h3]
  generalize eY A=a
  generalize eY B=b
  generalize lJ x=u
  generalize lJ r=v
  exact ((qa.append_left u (Ev a v b)).trans ((Ev u v (a++b)).trans (qa.append_left v (Ev u a b))))
def canon (F:List (Nat × Ob)) (n:Nat):List Ob:=(aT n).map fun j=>((F.find? fun b=>b.1 == j).map (·.2)).getD .gone
structure FK (F:List (Nat × Ob)) (n:Nat):Prop where
  lt:∀ b∈F,b.1<n
  nd:(F.map (·.1)).Nodup
theorem Fc.fk {F:List (Nat × Ob)} {os:List Ob} (h:Fc F os):FK F os.length:=⟨fun b hb=>(aS.1 (h.at_ b hb)).1,h.nd⟩
theorem xw (F:List (Nat × Ob)) (n:Nat):(canon F n).length=n:=by simp[canon]
theorem Et:∀ {F:List (Nat × Ob)},(F.map (·.1)).Nodup→∀ b∈F,F.find? (fun x=>x.1 == b.1)=some b
  | a::F,h,b,hb=>by
    rw[cR,re] at h
    rcases bZ.1 hb with rfl | hb
    · simp
    · have:a.1≠b.1:=fun e=>h.1 (b7.2 ⟨b,hb,e.symm⟩)
      rw[List.find?_cons_of_neg (by simpa using this)]
      exact Et h.2 b hb
theorem FK.canon {F:List (Nat × Ob)} {n:Nat} (h:FK F n):Fc F (canon F n):=⟨fun b hb=>by
  unfold T.canon
  rw[bN,j3 (h.lt b hb),ed,Et h.nd b hb];rfl,h.nd⟩
def rU:List Nat→List Ob→List Ob
  | [],os=>os
  | j::l,os=>rU l (os.set j .gone)
theorem OB:∀ (l:List Nat) (os:List Ob),(rU l os).length=os.length
  | [],os=>rfl
  | j::l,os=>by rw[rU,OB l,bm]
theorem OC:∀ (l:List Nat) (os:List Ob) (j:Nat),j<os.length→(rU l os)[j]?=if j∈l then some .gone else os[j]?
  | [],os,j,hj=>by simp[rU]
  | i::l,os,j,hj=>by
    rw[rU,OC l _ j (by rw[bm];exact hj)]
    by_cases h1:j∈l
    · rw[if_pos h1,if_pos (by simp[h1])]
    · rw[if_neg h1,bS]
      by_cases h2:i=j
      · subst h2;rw[if_pos rfl,if_pos hj,if_pos (by simp)]
      · rw[if_neg h2,if_neg (by simp only[bZ,not_or];exact⟨fun e=>h2 e.symm,h1⟩)]
theorem aaS {F:List (Nat × Ob)} {os:List Ob} (h:Fc F os):rU ((aT os.length).filter fun j=>!(F.map (·.1)).contains j) os=canon F os.length:=by
  apply ju
  intro j
  by_cases hj:j<os.length
  · rw[OC _ _ _ hj]
    by_cases hm:j∈F.map (·.1)
    · obtain ⟨b,hb,rfl⟩:=b7.1 hm
      rw[if_neg (by simp[yy,hm]),h.fk.canon.at_ b hb,h.at_ b hb]
    · rw[if_pos (by rw[yy];exact⟨mA.2 hj,by simp at hm ⊢;exact hm⟩)]
      unfold canon
      rw[bN,j3 hj,ed]
      have:F.find? (fun b=>b.1 == j)=none:=by
        rw[List.find?_eq_none]
        intro b hb e
        exact hm (b7.2 ⟨b,hb,by simpa using e⟩)
      rw[this];rfl
  · rw[du (by rw[OB];omega),du (by rw[xw];omega)]
theorem aA.rU {n0:Nat}:∀ (l:List Nat) (σ:St),aA n0 σ ⟨σ.env,T.rU l σ.aa⟩
  | [],σ=>by intro os γ0 γ _ hs hf;exact⟨γ,rfl,rfl,hs,hf⟩
  | j::l,σ=>by
    refine aA.trans (σ1:=⟨σ.env,σ.aa.set j .gone⟩) ?_ (aA.rU l ⟨σ.env,σ.aa.set j .gone⟩)
    intro os γ0 γ _ hs hf
    exact⟨γ,rfl,rfl,hs.kill j,hf.trans (Fr.kill _ _ j)⟩
theorem aA.canon {n0:Nat} {σ:St} {F:List (Nat × Ob)} (h:Fc F σ.aa):aA n0 σ ⟨σ.env,T.canon F σ.aa.length⟩:=by
  rw[← aaS h]
  exact aA.rU _ σ
section
variable {F G:List (Nat × Ob)} {n:Nat}
theorem FK.mono (h:FK F n) {k:Nat} (hk:n≤k):FK F k:=⟨fun b hb=>Nat.lt_of_lt_of_le (h.lt b hb) hk,h.nd⟩
theorem FK.perm (h:FK F n) (hp:F.Perm G):FK G n:=⟨fun b hb=>h.lt b (hp.mem_iff.2 hb),((hp.map (·.1)).nodup_iff).1 h.nd⟩
theorem FK.add (h:FK F n) {i:Nat} {x:Ob} (h1:n≤i) {k:Nat} (h2:i<k):FK ((i,x)::F) k:=⟨fun b hb=>by
  rcases bZ.1 hb with rfl | hb
  · exact h2
  · have:=h.lt b hb;omega,by
  rw[cR,re]
  exact⟨fun hh=>by obtain ⟨b,hb,e⟩:=b7.1 hh;have:=h.lt b hb;omega,h.nd⟩⟩
theorem FK.keys (h:FK F n) (hk:G.map (·.1)=F.map (·.1)):FK G n:=⟨fun b hb=>by
  have:b.1∈F.map (·.1):=by rw[← hk];exact b7.2 ⟨b,hb,rfl⟩
  obtain ⟨c,hc,e⟩:=b7.1 this
  rw[← e];exact h.lt c hc,by rw[hk];exact h.nd⟩
theorem FK.drop {b:Nat × Ob} (h:FK (b::F) n):FK F n:=⟨fun c hc=>h.lt c (by simp[hc]),by have:=h.nd;rw[cR,re] at this;exact this.2⟩
end
structure GS where
  n:Nat
  p:Nat
  R:List Rw
  k:Nat
end T

