import Derived.Test.YtmhloinjpcabcaaGreatX37
import Derived.Test.YtmhloinjpcabcaaGreatX22
import Derived.Test.YtmhloinjpcabcaaGreatX32
set_option linter.unusedVariables false
set_option linter.unusedSimpArgs false
set_option linter.unnecessarySimpa false
set_option linter.unusedSectionVars false
set_option maxHeartbeats 64000000
set_option maxRecDepth 20000
open Go Go.Am Go.Proofs
open Nat (reduceEqDiff reduceAdd reduceLeDiff reduceMul)
open Int (reduceNeg reduceLE reduceToNat)
namespace T
def tl (l:List Int):List (List Int × AV):=l.map fun k=>([k],AV.lit (.bool true))
def mR (b0 n:Nat):List (List AV):=(List.range n).map fun i=>[AV.mref (b0+i)]
theorem mR_get {b0 n i:Nat} (h:i<n):(mR b0 n)[i]?=some [.mref (b0+i)]:=by unfold mR;rw[List.getElem?_map,List.getElem?_range h];rfl
theorem mR_len (b0 n:Nat):(mR b0 n).length=n:=by unfold mR;simp
theorem putA_setA (l:List Int) (u v:AV) (L:List (List Int × AV)):putA (idxA l L) v (Am.setA l u L)=Am.setA l v L:=by
  unfold putA idxA Am.setA
  cases h:findA l L 0 with
  | none =>
    rw[Option.getD_none]
    dsimp only
    rw[List.set_append_right _ _ (Nat.le_refl _),Nat.sub_self,List.getD_eq_getElem?_getD,List.getElem?_append_right (Nat.le_refl _),Nat.sub_self]
    rfl
  | some q =>
    obtain ⟨_,w,hw⟩:=findA_some h
    rw[Nat.sub_zero] at hw
    have hq:=(List.getElem?_eq_some_iff.1 hw).1
    rw[Option.getD_some]
    dsimp only
    rw[List.set_set,List.getD_eq_getElem?_getD,List.getElem?_set_self hq]
    rfl
theorem idxA_lt (l:List Int) (u:AV) (L:List (List Int × AV)):idxA l L<(Am.setA l u L).length:=by
  unfold idxA Am.setA
  cases h:findA l L 0 with
  | none=>simp
  | some q =>
    obtain ⟨_,w,hw⟩:=findA_some h
    rw[Nat.sub_zero] at hw
    have hq:=(List.getElem?_eq_some_iff.1 hw).1
    simpa using hq
theorem findA_tl (k:Int):∀ (l:List Int) (i:Nat),(k ∉ l→findA [k] (tl l) i=none)∧(k∈l→∃ q,findA [k] (tl l) i=some (i+q)∧l[q]?=some k)
  | [],i=>⟨fun _=>rfl,fun h=>by cases h⟩
  | x::r,i=>by
    obtain ⟨h1,h2⟩:=findA_tl k r (i+1)
    show (k ∉ x::r→(if [x]=[k] then some i else findA [k] (tl r) (i+1))=none)∧(k∈x::r→∃ q,(if [x]=[k] then some i else findA [k] (tl r) (i+1))=some (i+q)∧(x::r)[q]?=some k)
    by_cases hx:x=k
    · subst hx
      exact⟨fun h=>absurd (by simp) h,fun _=>⟨0,by simp,rfl⟩⟩
    · rw[if_neg (by simpa using hx)]
      refine⟨fun h=>h1 (fun hh=>h (by simp[hh])),fun h=>?_⟩
      obtain ⟨q,h3,h4⟩:=h2 (by rcases List.mem_cons.1 h with h | h;exact absurd h.symm hx;exact h)
      exact⟨q+1,by rw[h3];congr 1;omega,h4⟩
theorem setA_tl (k:Int) (l:List Int):Am.setA [k] (.lit (.bool true)) (tl l)=tl (insN l k):=by
  obtain ⟨h1,h2⟩:=findA_tl k l 0
  unfold Am.setA insN
  by_cases h:k∈l
  · obtain ⟨q,h3,h4⟩:=h2 h
    rw[h3,if_pos h]
    dsimp only
    rw[Nat.zero_add]
    apply List.ext_getElem?
    intro j
    rw[List.getElem?_set]
    unfold tl
    by_cases hj:q=j
    · subst hj
      obtain ⟨h5,h6⟩:=List.getElem?_eq_some_iff.1 h4
      simp[h6,h5]
    · rw[if_neg hj]
  · rw[h1 h,if_neg h]
    unfold tl
    simp
def mpO (l:List Int):Ob:=.mp 0 (tl l)
def jO (b0:Nat) (near:List (List Int)) (a b:Int) (os:List Ob):List Ob :=
  if a=b then os else (os.set (b0+a.toNat) (mpO (insN (near.getD a.toNat []) b))).set (b0+b.toNat) (mpO (insN (near.getD b.toNat []) a))
structure NbO (b0 h ar n:Nat) (near:List (List Int)) (os:List Ob):Prop where
  v:os[h]?=some (.var [.ref ar 1 0 n])
  a:os[ar]?=some (.arr 1 (mR b0 n))
  len:near.length=n
  mp:∀ i,i<n→os[b0+i]?=some (mpO (near.getD i []))
theorem NbO.app {b0 h ar n:Nat} {near:List (List Int)} {os:List Ob} (k:NbO b0 h ar n near os) (l:List Ob):NbO b0 h ar n near (os++l):=⟨oLo k.v l,oLo k.a l,k.len,fun i hi=>oLo (k.mp i hi) l⟩
theorem NbO.ne {b0 h ar n:Nat} {near:List (List Int)} {os:List Ob} (k:NbO b0 h ar n near os) {i:Nat} (hi:i<n):b0+i≠h∧b0+i≠ar:=by
  have:=k.mp i hi
  unfold mpO at this
  exact⟨fun e=>(by rw[e,k.v] at this;simp at this),fun e=>(by rw[e,k.a] at this;simp at this)⟩
theorem getD_setN {s:List (List Int)} {i k:Nat} (x:List Int) (hi:i<s.length):(s.set i x).getD k []=if i=k then x else s.getD k []:=getD_set' s i k x [] hi
theorem NbO.put {b0 h ar n:Nat} {near:List (List Int)} {os:List Ob} (k:NbO b0 h ar n near os) {i:Nat} (hi:i<n) (x:List Int):NbO b0 h ar n (near.set i x) (os.set (b0+i) (mpO x)):=by
  obtain ⟨n1,n2⟩:=k.ne hi
  refine⟨by rw[List.getElem?_set_ne n1];exact k.v,by rw[List.getElem?_set_ne n2];exact k.a,by rw[List.length_set];exact k.len,fun j hj=>?_⟩
  rw[getD_setN _ (by rw[k.len];exact hi)]
  by_cases e:i=j
  · subst e;rw[if_pos rfl];exact oSe (k.mp i hi)
  · rw[if_neg e,List.getElem?_set_ne (by omega)];exact k.mp j hj
theorem NbO.join {b0 h ar n:Nat} {near:List (List Int)} {os:List Ob} (k:NbO b0 h ar n near os) {a b:Int} (ha:0≤a∧a<n) (hb:0≤b∧b<n):NbO b0 h ar n (joinN near a b) (jO b0 near a b os):=by
  unfold joinN jO
  by_cases hab:a=b
  · rw[if_pos hab,if_pos hab];exact k
  · rw[if_neg hab,if_neg hab]
    have h1:=k.put (i:=a.toNat) (by omega) (insN (near.getD a.toNat []) b)
    have h2:=h1.put (i:=b.toNat) (by omega) (insN (near.getD b.toNat []) a)
    have e:(near.set a.toNat (insN (near.getD a.toNat []) b)).getD b.toNat []=near.getD b.toNat []:=by
      rw[getD_setN _ (by rw[k.len];omega),if_neg (by omega)]
    dsimp only
    rw[e]
    exact h2
theorem jO_len (b0:Nat) (near:List (List Int)) (a b:Int) (os:List Ob):(jO b0 near a b os).length=os.length:=by unfold jO;split<;>simp
theorem join_ok {b0 h ar n:Nat} {near:List (List Int)} {os:List Ob} (k:NbO b0 h ar n near os) (a b:Int) (ha:0≤a∧a<n) (hb:0≤b∧b<n) :
    Holds Tryz.prog 80 [.lit (.int .i64 a),.lit (.int .i64 b),.ptr h 0 0] os (.tup []) (jO b0 near a b os):=by
  have f1:=k.v
  have f2:=k.a
  have f3:=mR_get (b0:=b0) (i:=a.toNat) (n:=n) (by omega)
  have f4:=mR_get (b0:=b0) (i:=b.toNat) (n:=n) (by omega)
  have f5:=k.mp a.toNat (by omega)
  have f6:=k.mp b.toNat (by omega)
  have hml:=mR_len b0 n
  generalize hres:jO b0 near a b os=res
  unfold jO at hres
  generalize near.getD a.toNat []=la at *
  generalize near.getD b.toNat []=lb at *
  have hL:os.length≤res.length:=by rw[← hres];split<;>simp
  refine Holds.of_body' (fn:=Tryz.f80) 22 os.length [] Tryz.func80 rfl rfl rfl rfl rfl (by simp) ?_
  by_cases hab:a=b
  · rw[if_pos hab] at hres
    ((try revert hK K);(repeat' (first|refine Vb X0 ?_|(refine V2 X0 ?_ ?_<;>try with_reducible intro hb)|(refine Xi ?_ ?_<;>try intro ht)|refine VD ?_ ?_|exact Xx|fail))<;>try with_reducible intro K hK)
    all_goals try (exfalso;omega)
    exact RetOK_all hres hL rfl
  · rw[if_neg hab] at hres
    unfold mpO at f5 f6 hres
    have e1:=fun u=>putA_setA [b] u (.lit (.bool true)) (tl la)
    have e2:=fun u=>putA_setA [a] u (.lit (.bool true)) (tl lb)
    have e3:=fun u=>idxA_lt [b] u (tl la)
    have e4:=fun u=>idxA_lt [a] u (tl lb)
    have e5:=setA_tl b la
    have e6:=setA_tl a lb
    have g1:=fun x=>oSe (y:=x) f5
    have hne:b0+b.toNat≠b0+a.toNat:=by omega
    have g2:=fun x:Ob=>(show (os.set (b0+a.toNat) x)[b0+b.toNat]?=some (.mp 0 (tl lb)) by rw[List.getElem?_set_ne (Ne.symm hne)];exact f6)
    have g3:=fun x y:Ob=>oSe (y:=y) (g2 x)
    ((try revert hK K);(repeat' (first|refine Vb (X5 @f1 @f2 @f3 @f4 (X5 @f5 @f6 @hml @g1 (X5 @g2 @g3 @e1 @e2 (X5 @e3 @e4 @e5 @e6 @List.set_set.{0})))) ?_|(refine V2 (X5 @f1 @f2 @f3 @f4 (X5 @f5 @f6 @hml @g1 (X5 @g2 @g3 @e1 @e2 (X5 @e3 @e4 @e5 @e6 @List.set_set.{0})))) ?_ ?_<;>try with_reducible intro hb)|(refine Xi ?_ ?_<;>try intro ht)|refine VD ?_ ?_|exact Xx|fail))<;>try with_reducible intro K hK)
    all_goals try (exfalso;omega)
    all_goals first|exact Int.ofNat_lt.2 (idxA_lt _ _ _)|exact RetOK_all hres hL rfl
theorem jO_get {b0:Nat} {near:List (List Int)} {a b:Int} {os:List Ob} {i:Nat} (hi:i<b0):(jO b0 near a b os)[i]?=os[i]?:=by
  unfold jO
  split
  · rfl
  · rw[List.getElem?_set_ne (by omega),List.getElem?_set_ne (by omega)]
theorem jO_keep {b0 h ar n:Nat} {near:List (List Int)} {a b:Int} {os:List Ob} (k:NbO b0 h ar n near os) (ha:0≤a∧a<n) (hb:0≤b∧b<n) {i:Nat} {cells:List AV} (hi:os[i]?=some (.var cells)):(jO b0 near a b os)[i]?=some (.var cells):=by
  have h1:=k.mp a.toNat (by omega)
  have h2:=k.mp b.toNat (by omega)
  unfold mpO at h1 h2
  unfold jO
  split
  · exact hi
  · rw[List.getElem?_set_ne (fun e=>by rw[e,hi] at h2;simp at h2),List.getElem?_set_ne (fun e=>by rw[e,hi] at h1;simp at h1)];exact hi
theorem hasF_eq (p:Pr):p.tab.contains 1099511627776=hasF p:=by
  unfold hasF
  rw[Bool.eq_iff_iff,List.contains_iff_mem,List.any_eq_true]
  constructor
  · intro h;exact⟨_,h,by simp⟩
  · rintro ⟨x,hx,e⟩
    rw[decide_eq_true_eq] at e
    rw[← e];exact hx
def mI (n i:Nat):List (List AV):=mR 3 i++List.replicate (n - i) [AV.lit (.map none)]
theorem mI_len {n i:Nat} (h:i≤n):(mI n i).length=n:=by unfold mI;rw[List.length_append,mR_len,List.length_replicate];omega
theorem mI_set {n i:Nat} (h:i<n):(mI n i).set i [.mref (3+i)]=mI n (i+1):=by
  unfold mI
  rw[List.set_append_right _ _ (by rw[mR_len];exact Nat.le_refl _),mR_len,Nat.sub_self,show n - i=(n - (i+1))+1 by omega,List.replicate_succ,List.set_cons_zero]
  unfold mR
  rw[List.range_succ,List.map_append,List.append_assoc]
  rfl
theorem mI_row {n i:Nat} (h:i<n):(mI n i)[i]?=some [.lit (.map none)]:=by
  unfold mI
  rw[List.getElem?_append_right (by rw[mR_len];exact Nat.le_refl _),mR_len,Nat.sub_self,List.getElem?_replicate,if_pos (by omega)]
theorem neighbours_ok (m:Mdl) (hm:VM m):Holds Tryz.prog 39 [.agg (eMdl m)] [] (.tree 1 (ints (nbV m))) []:=by
  have hm1:=hm.cls
  have hm2:=hm.prs
  have hm3:=hm.cts
  have hnb:=nb_eq hm
  unfold nbSets at hnb
  generalize hr1:nbPrs m.prs (List.replicate m.cls.length [])=s1 at hnb
  generalize hr2:nbCts m.cts s1=s2 at hnb
  generalize hcn:m.cls.length=n at *
  refine Holds.of_body' (fn:=Tryz.f39) 99 0 [.tmp 2] Tryz.func39 rfl rfl rfl rfl rfl (by simp) ?_
  ((try revert hK K);(repeat' (first|refine Vb @hcn ?_|(refine V2 @hcn ?_ ?_<;>try with_reducible intro hb)|(refine Xi ?_ ?_<;>try intro ht)|refine VD ?_ ?_|exact Xx|fail))<;>try with_reducible intro K hK)
  refine W_loopS (fun z:Nat × List Ob=>(⟨slots [(1,.ptr 0 0 0),(3,.ptr 2 0 0),(21,.ref 1 1 0 n),(22,.lit (.int .i64 n)),(23,.lit (.int .i64 z.1))],z.2⟩:St))
    (fun z=>z.1≤n∧z.2.length=3+z.1∧z.2[0]?=some (.var (eMdl m))∧z.2[1]?=some (.arr 1 (mI n z.1))∧z.2[2]?=some (.var [.ref 1 1 0 n])∧∀ j,j<z.1→z.2[3+j]?=some (mpO [])) (fun z=>n - z.1)
    (0,[.var (eMdl m),.arr 1 (mI n 0),.var [.ref 1 1 0 n]]) ⟨Nat.zero_le _,rfl,rfl,rfl,rfl,fun j hj=>by simp at hj⟩ (Xv X0) ?_
  rintro ⟨i,os⟩ ⟨hi,hol,f0,f1,f2,f3⟩ Ql hnl hel
  dsimp only at hi hol f0 f1 f2 f3 ⊢
  by_cases hi':i<n
  · have hset:=mI_set hi'
    have hrow:=mI_row hi'
    have hil:=mI_len hi
    have g1:=fun l=>oLo f1 l
    have g2:=fun l=>oLo f2 l
    have g3:=fun x y=>oSo f1 x (y:=y)
    rw[← hol] at hset
    ((try revert hK K);(repeat' (first|refine Va (X5 @f1 @f2 @g1 @g2 (X4 @g3 @hil @hrow @hset)) ?_|(refine V2 (X5 @f1 @f2 @g1 @g2 (X4 @g3 @hil @hrow @hset)) ?_ ?_<;>try with_reducible intro hb)|(refine Xi ?_ ?_<;>try intro ht)|refine VD ?_ ?_|exact Xx|fail))<;>try with_reducible intro K hK)
    refine hnl _ (i+1,os.set 1 (.arr 1 (mI n (i+1)))++[.mp 0 []]) ⟨by dsimp only;omega,by simp;omega,oLo (by rw[List.getElem?_set_ne (by decide)];exact f0) _,oLo (oSe f1) _,oLo (by rw[List.getElem?_set_ne (by decide)];exact f2) _,fun j hj=>?_⟩ (by dsimp only;omega) (Xv X0)
    dsimp only at hj
    by_cases hji:j=i
    · subst hji
      rw[← hol,List.getElem?_append_right (by simp),List.length_set,Nat.sub_self];rfl
    · exact oLo (by rw[List.getElem?_set_ne (by omega)];exact f3 j (by omega)) _
  · obtain rfl:i=n:=by omega
    have hmi:mI i i=mR 3 i:=by unfold mI;simp
    rw[hmi] at f1
    have k0:NbO 3 2 1 i (List.replicate i []) os:=⟨f2,f1,by simp,fun j hj=>by
      rw[List.getD_eq_getElem?_getD,List.getElem?_replicate,if_pos hj];exact f3 j hj⟩
    ((try revert hK K);(repeat' (first|refine Va X0 ?_|(refine V2 X0 ?_ ?_<;>try with_reducible intro hb)|(refine Xi ?_ ?_<;>try intro ht)|refine VD ?_ ?_|exact Xx|fail))<;>try with_reducible intro K hK)
    refine hel _ _ rfl ?_;clear hnl hel Ql
    repeat (first|refine Xu ?_)
    clear hi hol f1 f2 f3 hi' hmi
    generalize List.replicate i []=near0 at *
    ((try revert hK K);(repeat' (first|refine Vb @f0 ?_|(refine V2 @f0 ?_ ?_<;>try with_reducible intro hb)|(refine Xi ?_ ?_<;>try intro ht)|refine VD ?_ ?_|exact Xx|fail))<;>try with_reducible intro K hK)
    refine W_loopS (fun z:Nat × List (List Int) × List Ob=>(⟨slots [(1,.ptr 0 0 0),(3,.ptr 2 0 0),(5,.fn 80 [.ptr 2 0 0]),(33,.tree 4 (rowsOf ePr m.prs)),(34,.lit (.int .i64 m.prs.length)),(35,.lit (.int .i64 z.1))],z.2.2⟩:St))
      (fun z=>z.1≤m.prs.length∧z.2.2[0]?=some (.var (eMdl m))∧NbO 3 2 1 i z.2.1 z.2.2∧nbPrs (m.prs.drop z.1) z.2.1=s1) (fun z=>m.prs.length - z.1) (0,near0,os) ⟨Nat.zero_le _,f0,k0,hr1⟩ (Xv X0) ?_
    clear f0 k0 hr1
    rintro ⟨k,near,os⟩ ⟨hk,f0,k0,hr⟩ Ql hnl hel
    dsimp only at hk f0 k0 hr ⊢
    by_cases hk':k<m.prs.length
    · have hpb:=prsL_mem hm.pr _ (getD_mem (d:=default) hk')
      have htl:=hm.mb.tab _ (getD_mem (d:=default) hk')
      rw[getD_drop0 m.prs k default hk',nbPrs] at hr
      generalize hpp:m.prs.getD k default=p at *
      obtain ⟨q1,q2,q3,q4,q5⟩:=pairB_iff hpb
      have hct:=containsN_ok p.tab 1099511627776 htl
      rw[hasF_eq] at hct
      have k1:=k0.app [.var (ePr p)]
      have hj:=join_ok k1 p.fst p.snd (by omega) (by omega)
      have hjl:=jO_len 3 near p.fst p.snd (os++[.var (ePr p)])
      have k2:=k1.join (a:=p.fst) (b:=p.snd) (by omega) (by omega)
      have f1:(jO 3 near p.fst p.snd (os++[.var (ePr p)]))[0]?=some (.var (eMdl m)):=by rw[jO_get (by decide)];exact oLo f0 _
      generalize hasF p=b at *
      cases b
      · rw[if_neg (by decide)] at hr
        ((try revert hK K);(repeat' (first|refine Vc (X4 @hpp @ePr.eq_1 @oL0 @oS0) hct ?_|(refine V2 (X4 @hpp @ePr.eq_1 @oL0 @oS0) ?_ ?_<;>try with_reducible intro hb)|(refine Xi ?_ ?_<;>try intro ht)|refine VD ?_ ?_|exact Xx|fail))<;>try with_reducible intro K hK)
        all_goals exact hnl _ (k+1,near,os++[.var (ePr p)]) ⟨by dsimp only;omega,oLo f0 _,k1,hr⟩ (by dsimp only;omega) (Xv X0)
      · rw[if_pos rfl] at hr
        ((try revert hK K);(repeat' (first|refine Vc (X4 @hpp @ePr.eq_1 @oL0 @oS0) hct ?_|(refine V2 (X4 @hpp @ePr.eq_1 @oL0 @oS0) ?_ ?_<;>try with_reducible intro hb)|(refine Xi ?_ ?_<;>try intro ht)|refine VD ?_ ?_|exact Xx|fail))<;>try with_reducible intro K hK)
        refine callK_all hj (by rw[hjl];exact Nat.le_refl _) ?_
        ((try revert hK K);(repeat' (first|refine Va X0 ?_|(refine V2 X0 ?_ ?_<;>try with_reducible intro hb)|(refine Xi ?_ ?_<;>try intro ht)|refine VD ?_ ?_|exact Xx|fail))<;>try with_reducible intro K hK)
        exact hnl _ (k+1,_,_) ⟨by dsimp only;omega,f1,k2,hr⟩ (by dsimp only;omega) (Xv X0)
    · rw[List.drop_eq_nil_of_le (by omega),nbPrs] at hr
      subst hr
      ((try revert hK K);(repeat' (first|refine Va X0 ?_|(refine V2 X0 ?_ ?_<;>try with_reducible intro hb)|(refine Xi ?_ ?_<;>try intro ht)|refine VD ?_ ?_|exact Xx|fail))<;>try with_reducible intro K hK)
      refine hel _ _ rfl ?_;clear hnl hel Ql
      repeat (first|refine Xu ?_)
      clear hk hk'
      ((try revert hK K);(repeat' (first|refine Vb @f0 ?_|(refine V2 @f0 ?_ ?_<;>try with_reducible intro hb)|(refine Xi ?_ ?_<;>try intro ht)|refine VD ?_ ?_|exact Xx|fail))<;>try with_reducible intro K hK)
      refine W_loopS (fun z:Nat × List (List Int) × List Ob=>(⟨slots [(1,.ptr 0 0 0),(3,.ptr 2 0 0),(5,.fn 80 [.ptr 2 0 0]),(50,.tree 4 (rowsOf eCt m.cts)),(51,.lit (.int .i64 m.cts.length)),(52,.lit (.int .i64 z.1))],z.2.2⟩:St))
        (fun z=>z.1≤m.cts.length∧z.2.2[0]?=some (.var (eMdl m))∧NbO 3 2 1 i z.2.1 z.2.2∧nbCts (m.cts.drop z.1) z.2.1=s2) (fun z=>m.cts.length - z.1) (0,near,os) ⟨Nat.zero_le _,f0,k0,hr2⟩ (Xv X0) ?_
      clear f0 k0 hr2
      rintro ⟨k,near,os⟩ ⟨hk,f0,k0,hr⟩ Ql hnl hel
      dsimp only at hk f0 k0 hr ⊢
      by_cases hk':k<m.cts.length
      · have hcb:=hm.ct _ (getD_mem (d:=default) hk')
        rw[getD_drop0 m.cts k default hk',nbCts] at hr
        generalize hcc:m.cts.getD k default=c at *
        have hlc:=ld_cls hcb
        have hlen:=ldL_len0 hm (ctB_iff hcb).2.2.2
        have hhd:=wHard_ok c
        generalize hardB c=b at *
        cases b
        · rw[if_neg (by decide)] at hr
          ((try revert hK K);(repeat' (first|refine Vc (X4 @hcc @eCt.eq_1 @oL0 @oS0) hhd ?_|(refine V2 (X4 @hcc @eCt.eq_1 @oL0 @oS0) ?_ ?_<;>try with_reducible intro hb)|(refine Xi ?_ ?_<;>try intro ht)|refine VD ?_ ?_|exact Xx|fail))<;>try with_reducible intro K hK)
          all_goals exact hnl _ (k+1,near,os++[.var (eCt c)]) ⟨by dsimp only;omega,oLo f0 _,k0.app _,hr⟩ (by dsimp only;omega) (Xv X0)
        · rw[if_pos rfl] at hr
          have ec:(os++[.var (eCt c)])[os.length]?=some (.var (eCt c)):=oL0 _ _ _
          have kc:=k0.app [.var (eCt c)]
          have fc:=oLo f0 [.var (eCt c)]
          ((try revert hK K);(repeat' (first|refine Vc (X4 @hcc @eCt.eq_1 @oL0 @oS0) hhd ?_|(refine V2 (X4 @hcc @eCt.eq_1 @oL0 @oS0) ?_ ?_<;>try with_reducible intro hb)|(refine Xi ?_ ?_<;>try intro ht)|refine VD ?_ ?_|exact Xx|fail))<;>try with_reducible intro K hK)
          all_goals try (exfalso;simp_all;done)
          generalize hcl:nbLd c.loads c.loads near=n3 at hr
          generalize os.length=ci at *
          refine W_loopS (fun z:Nat × List (List Int) × List Ob=>(⟨slots [(1,.ptr 0 0 0),(3,.ptr 2 0 0),(5,.fn 80 [.ptr 2 0 0]),(9,.ptr ci 0 0),(50,.tree 4 (rowsOf eCt m.cts)),(51,.lit (.int .i64 m.cts.length)),(52,.lit (.int .i64 k)),(60,.tree 3 (rowsOf eLd c.loads)),(61,.lit (.int .i64 c.loads.length)),(62,.lit (.int .i64 z.1))],z.2.2⟩:St))
            (fun z=>z.1≤c.loads.length∧z.2.2[0]?=some (.var (eMdl m))∧z.2.2[ci]?=some (.var (eCt c))∧NbO 3 2 1 i z.2.1 z.2.2∧nbLd c.loads (c.loads.drop z.1) z.2.1=n3) (fun z=>c.loads.length - z.1) (0,near,os++[.var (eCt c)]) ⟨Nat.zero_le _,fc,ec,kc,hcl⟩ (Xv X0) ?_
          clear f0 k0 kc ec fc hcl
          rintro ⟨x,near,os⟩ ⟨hx,f0,fc,k0,hrx⟩ Ql2 hnl2 hel2
          dsimp only at hx f0 fc k0 hrx ⊢
          by_cases hx':x<c.loads.length
          · have hla:=hlc _ (getD_mem (d:=default) hx')
            rw[getD_drop0 c.loads x default hx',nbLd] at hrx
            generalize haa:c.loads.getD x default=a at *
            generalize hcl:nbLd2 a.cls c.loads near=n4 at hrx
            have ea:(os++[.var (eLd a)])[os.length]?=some (.var (eLd a)):=oL0 _ _ _
            have ka:=k0.app [.var (eLd a)]
            have fa:=oLo f0 [.var (eLd a)]
            have fca:=oLo fc [.var (eLd a)]
            have fcl:=fun l=>oLo fc l
            unfold eCt at fcl
            ((try revert hK K);(repeat' (first|refine Va (X5 @haa @eLd.eq_1 @oL0 @oS0 @fcl) ?_|(refine V2 (X5 @haa @eLd.eq_1 @oL0 @oS0 @fcl) ?_ ?_<;>try with_reducible intro hb)|(refine Xi ?_ ?_<;>try intro ht)|refine VD ?_ ?_|exact Xx|fail))<;>try with_reducible intro K hK)
            generalize os.length=ai at *
            refine W_loopS (fun z:Nat × List (List Int) × List Ob=>(⟨slots [(1,.ptr 0 0 0),(3,.ptr 2 0 0),(5,.fn 80 [.ptr 2 0 0]),(9,.ptr ci 0 0),(11,.ptr ai 0 0),(50,.tree 4 (rowsOf eCt m.cts)),(51,.lit (.int .i64 m.cts.length)),(52,.lit (.int .i64 k)),(60,.tree 3 (rowsOf eLd c.loads)),(61,.lit (.int .i64 c.loads.length)),(62,.lit (.int .i64 x)),(67,.tree 3 (rowsOf eLd c.loads)),(68,.lit (.int .i64 c.loads.length)),(69,.lit (.int .i64 z.1))],z.2.2⟩:St))
              (fun z=>z.1≤c.loads.length∧z.2.2[0]?=some (.var (eMdl m))∧z.2.2[ci]?=some (.var (eCt c))∧z.2.2[ai]?=some (.var (eLd a))∧NbO 3 2 1 i z.2.1 z.2.2∧nbLd2 a.cls (c.loads.drop z.1) z.2.1=n4) (fun z=>c.loads.length - z.1) (0,near,os++[.var (eLd a)]) ⟨Nat.zero_le _,fa,fca,ea,ka,hcl⟩ (Xv X0) ?_
            clear f0 k0 ka ea fa fc fca hcl
            rintro ⟨y,near,os⟩ ⟨hy,f0,fc,fa,k0,hry⟩ Ql3 hnl3 hel3
            dsimp only at hy f0 fc fa k0 hry ⊢
            by_cases hy':y<c.loads.length
            · have hlb:=hlc _ (getD_mem (d:=default) hy')
              rw[getD_drop0 c.loads y default hy',nbLd2] at hry
              generalize hbb:c.loads.getD y default=bl at *
              have k1:=k0.app [.var (eLd bl)]
              have hj:=join_ok k1 a.cls bl.cls (by omega) (by omega)
              have hjl:=jO_len 3 near a.cls bl.cls (os++[.var (eLd bl)])
              have k2:=k1.join (a:=a.cls) (b:=bl.cls) (by omega) (by omega)
              have g0:=jO_keep (a:=a.cls) (b:=bl.cls) k1 (by omega) (by omega) (oLo f0 [.var (eLd bl)])
              have gc:=jO_keep (a:=a.cls) (b:=bl.cls) k1 (by omega) (by omega) (oLo fc [.var (eLd bl)])
              have ga:=jO_keep (a:=a.cls) (b:=bl.cls) k1 (by omega) (by omega) (oLo fa [.var (eLd bl)])
              have fab:=fun l=>oLo fa l
              rw[eLd] at fab
              ((try revert hK K);(repeat' (first|refine Va (X5 @hbb @eLd.eq_1 @oL0 @oS0 @fab) ?_|(refine V2 (X5 @hbb @eLd.eq_1 @oL0 @oS0 @fab) ?_ ?_<;>try with_reducible intro hb)|(refine Xi ?_ ?_<;>try intro ht)|refine VD ?_ ?_|exact Xx|fail))<;>try with_reducible intro K hK)
              refine callK_all hj (by rw[hjl];exact Nat.le_refl _) ?_
              ((try revert hK K);(repeat' (first|refine Va X0 ?_|(refine V2 X0 ?_ ?_<;>try with_reducible intro hb)|(refine Xi ?_ ?_<;>try intro ht)|refine VD ?_ ?_|exact Xx|fail))<;>try with_reducible intro K hK)
              exact hnl3 _ (y+1,_,_) ⟨by dsimp only;omega,g0,gc,ga,k2,hry⟩ (by dsimp only;omega) (Xv X0)
            · rw[List.drop_eq_nil_of_le (by omega),nbLd2] at hry
              subst hry
              ((try revert hK K);(repeat' (first|refine Va X0 ?_|(refine V2 X0 ?_ ?_<;>try with_reducible intro hb)|(refine Xi ?_ ?_<;>try intro ht)|refine VD ?_ ?_|exact Xx|fail))<;>try with_reducible intro K hK)
              refine hel3 _ _ rfl ?_
              clear hnl3 hel3
              repeat (first|refine Xu ?_)
              ((try revert hK K);(repeat' (first|refine Va X0 ?_|(refine V2 X0 ?_ ?_<;>try with_reducible intro hb)|(refine Xi ?_ ?_<;>try intro ht)|refine VD ?_ ?_|exact Xx|fail))<;>try with_reducible intro K hK)
              exact hnl2 _ (x+1,near,os) ⟨by dsimp only;omega,f0,fc,k0,hrx⟩ (by dsimp only;omega) (Xv X0)
          · rw[List.drop_eq_nil_of_le (by omega),nbLd] at hrx
            subst hrx
            ((try revert hK K);(repeat' (first|refine Va X0 ?_|(refine V2 X0 ?_ ?_<;>try with_reducible intro hb)|(refine Xi ?_ ?_<;>try intro ht)|refine VD ?_ ?_|exact Xx|fail))<;>try with_reducible intro K hK)
            refine hel2 _ _ rfl ?_
            clear hnl2 hel2
            repeat (first|refine Xu ?_)
            ((try revert hK K);(repeat' (first|refine Va X0 ?_|(refine V2 X0 ?_ ?_<;>try with_reducible intro hb)|(refine Xi ?_ ?_<;>try intro ht)|refine VD ?_ ?_|exact Xx|fail))<;>try with_reducible intro K hK)
            exact hnl _ (k+1,near,os) ⟨by dsimp only;omega,f0,k0,hr⟩ (by dsimp only;omega) (Xv X0)
      · rw[List.drop_eq_nil_of_le (by omega),nbCts] at hr
        subst hr
        ((try revert hK K);(repeat' (first|refine Va X0 ?_|(refine V2 X0 ?_ ?_<;>try with_reducible intro hb)|(refine Xi ?_ ?_<;>try intro ht)|refine VD ?_ ?_|exact Xx|fail))<;>try with_reducible intro K hK)
        refine hel _ _ rfl ?_;clear hnl hel Ql
        repeat (first|refine Xu ?_)
        clear hk hk'
        have fv:=k0.v
        have fa:=k0.a
        have hml:=mR_len 3 i
        have fvl:=fun l=>oLo fv l
        have fal:=fun l=>oLo fa l
        have htl:∀ l,(tl l).length=l.length:=fun l=>by unfold tl;simp
        have hmp:=fun (l:List Ob)=>(k0.app l).mp
        have hnl0:=k0.len
        unfold mpO at hmp
        ((try revert hK K);(repeat' (first|refine Vb (X5 @fv @fa @hml @fvl @fal) ?_|(refine V2 (X5 @fv @fa @hml @fvl @fal) ?_ ?_<;>try with_reducible intro hb)|(refine Xi ?_ ?_<;>try intro ht)|refine VD ?_ ?_|exact Xx|fail))<;>try with_reducible intro K hK)
        refine W_loopS (fun z:Nat × List Int=>(⟨slots [(14,.ref os.length 1 0 i),(85,.ref 1 1 0 i),(86,.lit (.int .i64 i)),(87,.lit (.int .i64 z.1))],os++[.arr 1 (ints z.2)]⟩:St))
          (fun z=>z.1≤i∧z.2=(near.take z.1).map (fun l=>(l.length:Int))++List.replicate (i - z.1) 0) (fun z=>i - z.1) (0,List.replicate i 0) ⟨Nat.zero_le _,by simp⟩ (Xv X0) ?_
        rintro ⟨j,xs⟩ ⟨hj,hxs⟩ Ql hnl hel
        dsimp only at hj hxs ⊢
        by_cases hj':j<i
        · have hxl:xs.length=i:=by rw[hxs];simp;omega
          have hrow:=mR_get (b0:=3) hj'
          have hmpj:=fun l=>hmp l j hj'
          have hns:xs.set j ((near.getD j []).length:Int)=(near.take (j+1)).map (fun l=>(l.length:Int))++List.replicate (i - (j+1)) 0:=by
            rw[hxs,List.set_append_right _ _ (by simp;omega),List.length_map,List.length_take,show j - min j near.length=0 by omega,show i - j=(i - (j+1))+1 by omega,List.replicate_succ,List.set_cons_zero,List.take_add_one,List.map_append,List.append_assoc]
            congr 1
            rw[List.getD_eq_getElem?_getD,List.getElem?_eq_getElem (by omega)]
            rfl
          generalize near.getD j []=lj at *
          ((try revert hK K);(repeat' (first|refine Va (X5 @fal @hml @hrow @hmpj (X5 @htl @oL0 @oS0 @hxl @ints_set)) ?_|(refine V2 (X5 @fal @hml @hrow @hmpj (X5 @htl @oL0 @oS0 @hxl @ints_set)) ?_ ?_<;>try with_reducible intro hb)|(refine Xi ?_ ?_<;>try intro ht)|refine VD ?_ ?_|exact Xx|fail))<;>try with_reducible intro K hK)
          all_goals try (exfalso;omega)
          exact hnl _ (j+1,_) ⟨by dsimp only;omega,hns⟩ (by dsimp only;omega) (Xv X0)
        · rw[List.take_of_length_le (by omega),show i - j=0 by omega,List.replicate_zero,List.append_nil,hnb] at hxs
          subst hxs
          ((try revert hK K);(repeat' (first|refine Va X0 ?_|(refine V2 X0 ?_ ?_<;>try with_reducible intro hb)|(refine Xi ?_ ?_<;>try intro ht)|refine VD ?_ ?_|exact Xx|fail))<;>try with_reducible intro K hK)
          refine hel _ _ rfl ?_;clear hnl hel Ql
          repeat (first|refine Xu ?_)
          ((try revert hK K);(repeat' (first|refine Vb X0 ?_|(refine V2 X0 ?_ ?_<;>try with_reducible intro hb)|(refine Xi ?_ ?_<;>try intro ht)|refine VD ?_ ?_|exact Xx|fail))<;>try with_reducible intro K hK)
          refine RetOK_sel [] true (by decide) trivial (by decide) (by decide) ?_
          exact ArgR.frz (rows:=ints (nbV m)) (oL0 _ _ _) (ints_wid _) (by rw[ints_length,nbV_len,hcn]) (not_kept (by simp)) (ints_frz _)
end T

