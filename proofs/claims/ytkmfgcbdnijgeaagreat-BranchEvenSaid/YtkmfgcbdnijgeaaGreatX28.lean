import Derived.Test.YtkmfgcbdnijgeaaGreatX19
import Derived.Test.YtkmfgcbdnijgeaaGreatX08
import Derived.Test.YtkmfgcbdnijgeaaGreatX12
set_option linter.unusedVariables false
set_option linter.unusedSimpArgs false
set_option linter.unnecessarySimpa false
set_option linter.unusedSectionVars false
set_option maxHeartbeats 64000000
set_option maxRecDepth 20000
open Go Go.Am
open Go Go.Am Go.Proofs
open Nat (reduceEqDiff reduceAdd reduceLeDiff reduceMul)
open Int (reduceNeg reduceLE reduceToNat)
namespace T
structure Nd where
  cls:Int
  kids:List Int
  mvs:List Mv
  grp:List Int
  cells:List (List (Int × Int))
  deriving Inhabited
def eCell (l:List (Int × Int)):List AV:=[.tree 2 (rowsOf eCh l)]
instance:Row eCell 1:=⟨fun _=>rfl,fun x v hv=>by
  simp only[eCell,List.mem_cons,List.not_mem_nil,or_false] at hv
  subst hv;exact .inr ⟨_,_,rfl⟩⟩
def eNd (x:Nd):List AV:=[.lit (.int .i64 x.cls),.tree 1 (ints x.kids),.tree 4 (rowsOf eMv x.mvs),.tree 1 (ints x.grp),.tree 1 (rowsOf eCell x.cells)]
instance:Row eNd 5:=⟨fun _=>rfl,fun x v hv=>by
  simp only[eNd,List.mem_cons,List.not_mem_nil,or_false] at hv
  rcases hv with rfl | rfl | rfl | rfl | rfl
  · exact .inl ⟨_,rfl,rfl⟩
  all_goals exact .inr ⟨_,_,rfl⟩⟩
def ePf (P:List Nd):List AV:=[.tree 5 (rowsOf eNd P)]
structure PB (P:List Nd):Prop where
  nds:P.length<9223372036854775808
  kids:∀ x∈P,x.kids.length<9223372036854775808
  mvs:∀ x∈P,x.mvs.length<9223372036854775808
  grp:∀ x∈P,x.grp.length<9223372036854775808
  cells:∀ x∈P,x.cells.length<9223372036854775808
  cell:∀ x∈P,∀ l∈x.cells,l.length<9223372036854775808
def ndB (m:Mdl) (x:Nd):Bool :=
  if x.cls = -1 then decide (x.kids.length=0∧(x.grp.length=0→x.cells.length=0)∧(0<x.grp.length→x.mvs.length=0))
  else decide (0≤x.cls∧x.cls<m.cls.length∧x.kids.length=(m.cls.getD x.cls.toNat default).length∧x.mvs.length=0∧x.grp.length=0∧x.cells.length=0)
def kidB (n i:Nat) (k:Int):Bool:=decide ((i:Int)<k∧k<n)
def nodeB (m:Mdl) (n i:Nat) (x:Nd):Bool:=ndB m x && x.kids.all (kidB n i)
def allK (P:List Nd):List Int:=P.flatMap (·.kids)
def parV (n:Nat) (l:List Int):List Int:=(List.range n).map fun (j:Nat)=>(l.count (j:Int):Int)
def shapedB (m:Mdl) (P:List Nd):Bool :=
  decide (1≤P.length∧P.length≤20000) && ((List.range P.length).all fun i=>nodeB m P.length i (P.getD i default)) && !((parV P.length (allK P)).drop 1).any (fun x=>x != 1)
theorem parV_len (n:Nat) (l:List Int):(parV n l).length=n:=by simp[parV]
theorem parV_get {n:Nat} (l:List Int) {j:Nat} (h:j<n):(parV n l).getD j 0=(l.count (j:Int):Int):=by
  unfold parV
  rw[List.getD_eq_getElem?_getD,List.getElem?_map,List.getElem?_range h];rfl
theorem parV_snoc (n:Nat) (l:List Int) (k:Nat) (h:k<n):parV n (l++[(k:Int)])=(parV n l).set k ((parV n l).getD k 0+1):=by
  apply List.ext_getElem?
  intro j
  rw[List.getElem?_set,parV_get l h]
  unfold parV
  rw[List.getElem?_map,List.length_map,List.length_range]
  by_cases hj:j<n
  · rw[List.getElem?_range hj,Option.map_some,List.count_append]
    by_cases e:k=j
    · subst e;rw[if_pos rfl,if_pos h];simp
    · rw[if_neg e,List.getElem?_map,List.getElem?_range hj,Option.map_some]
      have:((k:Int) == (j:Int))=false:=by rw[beq_eq_false_iff_ne];omega
      simp[List.count_cons,this]
  · rw[List.getElem?_eq_none (by simpa using hj)]
    split
    · omega
    · rw[List.getElem?_eq_none (by simpa using hj)];rfl
theorem parV_nil (n:Nat):parV n []=List.replicate n 0:=by
  apply List.ext_getElem?
  intro j
  unfold parV
  rw[List.getElem?_map,List.getElem?_replicate]
  by_cases hj:j<n
  · rw[List.getElem?_range hj,if_pos hj];rfl
  · rw[List.getElem?_eq_none (by simpa using hj),if_neg hj];rfl
theorem ndB_kids {m:Mdl} {x:Nd} (hm:VM m) (h:ndB m x=true):x.kids.length≤24:=by
  unfold ndB at h
  split at h
  · rw[decide_eq_true_eq] at h;omega
  · rw[decide_eq_true_eq] at h
    have:=hm.opt _ (getD_mem (l:=m.cls) (i:=x.cls.toNat) (d:=default) (by omega))
    omega
theorem allK_len {m:Mdl} {n:Nat} (hm:VM m):∀ (P:List Nd),(∀ x∈P,ndB m x=true)→(allK P).length≤24 * P.length
  | [],_=>by simp[allK]
  | x::r,h=>by
    have h1:=ndB_kids hm (h x (by simp))
    have h2:=allK_len (n:=n) hm r fun y hy=>h y (by simp[hy])
    unfold allK at h2 ⊢
    rw[List.flatMap_cons,List.length_append,List.length_cons];omega
theorem pc_le {n:Nat} {l:List Int} {j:Nat} (h:j<n):0≤(parV n l).getD j 0∧(parV n l).getD j 0≤l.length:=by
  rw[parV_get l h]
  have:=List.count_le_length (a:=(j:Int)) (l:=l)
  omega
theorem allK_snoc (P:List Nd) (x:Nd):allK (P++[x])=allK P++x.kids:=by unfold allK;rw[List.flatMap_append];simp
theorem shaped_bad {m:Mdl} {P:List Nd} {i:Nat} (hi:i<P.length) (h:nodeB m P.length i (P.getD i default)=false):shapedB m P=false:=by
  unfold shapedB
  have:((List.range P.length).all fun i=>nodeB m P.length i (P.getD i default))=false:=by
    rw[Bool.eq_false_iff]
    intro h2
    rw[List.all_eq_true] at h2
    rw[h2 i (List.mem_range.2 hi)] at h
    cases h
  rw[this,Bool.and_false,Bool.false_and]
theorem shaped_size {m:Mdl} {P:List Nd} (h:¬(1≤P.length∧P.length≤20000)):shapedB m P=false:=by
  unfold shapedB;rw[decide_eq_false h,Bool.false_and,Bool.false_and]
theorem shaped_end {m:Mdl} {P:List Nd} (h:1≤P.length∧P.length≤20000) (ha:∀ i,i<P.length→nodeB m P.length i (P.getD i default)=true):shapedB m P = !((parV P.length (allK P)).drop 1).any (fun x=>x != 1):=by
  unfold shapedB
  have:((List.range P.length).all fun i=>nodeB m P.length i (P.getD i default))=true:=by
    rw[List.all_eq_true];intro i hi;exact ha i (List.mem_range.1 hi)
  rw[this,decide_eq_true h,Bool.true_and,Bool.true_and]
def onlyR (w o:Nat):List Bool:=(List.replicate w false).set o true
def onlyV (left:List (List Bool)) (c o:Nat):List (List Bool):=left.set c (onlyR (left.getD c default).length o)
theorem onlyR_len (w o:Nat):(onlyR w o).length=w:=by simp[onlyR]
theorem onlyV_len (left:List (List Bool)) (c o:Nat):(onlyV left c o).map List.length=left.map List.length:=by
  unfold onlyV
  apply List.ext_getElem?
  intro j
  rw[List.getElem?_map,List.getElem?_map,List.getElem?_set]
  split
  · rename_i e;subst e
    split
    · rename_i h2;rw[List.getElem?_eq_getElem h2];simp[onlyR_len,h2]
    · rename_i h2;rw[List.getElem?_eq_none (by omega)]
  · rfl
theorem frz_row {σ:St} {kp:Nat→Prop} {c d:List AV} (h:∀ v∈c,(∃ x,v=AV.lit x)∨∃ s r,v=AV.tree s r) (e:d=c):ArgsR (Frz σ kp) c d:=by
  subst e
  induction d with
  | nil=>trivial
  | cons v l ih =>
    refine⟨?_,ih fun x hx=>h x (by simp[hx])⟩
    rcases h v (by simp) with ⟨x,rfl⟩ | ⟨s,r,rfl⟩
    · exact .lit _
    · exact .tree _ _
theorem frz_set {σ:St} {kp:Nat→Prop} {oi k c:Nat} {left:List (List Bool)} {r:List Bool} (hc:c<left.length) (ho:σ.objs[oi]?=some (.arr 1 ((rowsOf eBs left).set c [.ref k 1 0 r.length]))) (hk:¬ kp oi) (hr:σ.objs[k]?=some (.arr 1 (bools r))) (hkr:¬ kp k) :
    Frz σ kp (.tree 1 (rowsOf eBs (left.set c r))) (.ref oi 1 0 left.length) :=
  Frz.mk ho (by simp[rowsOf]) hk (rows_wid _) (RowsR.of_get (f:=fun _=>[]) (g:=fun _=>[]) (by simp[rowsOf]) fun j x d hx hd=>by
    unfold rowsOf at hx hd
    rw[List.getElem?_map,List.getElem?_set] at hx
    rw[List.getElem?_set] at hd
    by_cases e:c=j
    · subst e
      rw[if_pos rfl,if_pos hc] at hx
      rw[if_pos rfl,if_pos (by simpa using hc)] at hd
      cases hx;cases hd
      exact⟨frz_bools hr hkr,trivial⟩
    · rw[if_neg e] at hx hd
      rw[List.getElem?_map] at hd
      rw[hx] at hd
      simp only[Option.some.injEq] at hd
      cases hl:left[j]? with
      | none=>rw[hl] at hx;cases hx
      | some y =>
        rw[hl] at hx
        simp only[Option.map_some,Option.some.injEq] at hx
        subst hx
        exact frz_row (fun v hv=>by simp only[eBs,List.mem_singleton] at hv;exact .inr ⟨_,_,hv⟩) hd.symm)
def clP (m:Mdl) (a x b y:Int) (p:Pr):Bool:=decide (p.fst=a∧p.snd=b∧entryV m p x y=1099511627776)
def clV (m:Mdl) (a x b y:Int):Bool:=if b<a then m.prs.any (clP m b y a x) else m.prs.any (clP m a x b y)
theorem clV_comm {m:Mdl} {a x b y:Int} (h:a≠b):clV m a x b y=clV m b y a x:=by
  unfold clV
  by_cases h1:b<a
  · rw[if_pos h1,if_neg (by omega)]
  · rw[if_neg h1,if_pos (by omega)]
structure CI (m:Mdl) (plan out mv:List Int):Prop where
  fp:FP m out
  nd:mv.Nodup
  rg:∀ x∈mv,0≤x∧x<out.length
  un:∀ y:Nat,y<out.length→¬ (y:Int)∈mv→out.getD y 0=plan.getD y 0
theorem nodup_len:∀ {n:Nat} {l:List Int},l.Nodup→(∀ x∈l,0≤x∧x<n)→l.length≤n
  | 0,l,h,hr=>by
    cases l with
    | nil=>simp
    | cons x r=>have:=hr x (by simp);omega
  | n+1,l,h,hr=>by
    by_cases hm:(n:Int)∈l
    · have h1:=List.length_erase_of_mem hm
      have h2:=nodup_len (n:=n) (h.erase (n:Int)) fun x hx=>by
        have h3:=(List.Nodup.mem_erase_iff h).1 hx
        have:=hr x h3.2
        omega
      omega
    · have:=nodup_len (n:=n) h fun x hx=>by
        have:=hr x hx
        have:x≠n:=fun e=>hm (e ▸ hx)
        omega
      omega
theorem CI.len {m:Mdl} {plan out mv:List Int} (h:CI m plan out mv):mv.length≤out.length:=nodup_len h.nd h.rg
theorem CI.step {m:Mdl} {plan out mv:List Int} (h:CI m plan out mv) {y:Nat} (hy:y<out.length) (hm:¬ (y:Int)∈mv) {o:Int} (ho:optB m (y:Nat) o=true):CI m plan (out.set y o) (mv++[(y:Int)]):=by
  refine⟨?_,?_,?_,?_⟩
  · refine⟨by rw[List.length_set];exact h.fp.len,fun j hj=>?_⟩
    rw[List.length_set] at hj
    by_cases e:y=j
    · subst e
      rw[List.getD_eq_getElem?_getD,List.getElem?_set_self hj]
      exact ho
    · rw[List.getD_eq_getElem?_getD,List.getElem?_set_ne e,← List.getD_eq_getElem?_getD]
      exact h.fp.get j hj
  · rw[List.nodup_append]
    refine⟨h.nd,by simp,fun a ha b hb=>?_⟩
    rw[List.mem_singleton] at hb
    subst hb
    intro e;subst e;exact hm ha
  · intro x hx
    rw[List.length_set]
    rcases List.mem_append.1 hx with hx | hx
    · exact h.rg x hx
    · rw[List.mem_singleton.1 hx];omega
  · intro j hj hn
    rw[List.length_set] at hj
    rw[List.mem_append,not_or,List.mem_singleton] at hn
    rw[List.getD_eq_getElem?_getD,List.getElem?_set_ne (by omega),← List.getD_eq_getElem?_getD]
    exact h.un j hj hn.1
def isC (c o:Int) (y:Int × Int):Bool:=decide (y=(c,o))
def apB (m:Mdl) (a b:Int × Int):Bool:=decide (a.1=b.1) || clV m a.1 a.2 b.1 b.2
def cellF (m:Mdl) (g:List Int) (l:List (Int × Int)) (i:Nat):Bool:=g.contains (l.getD i default).1 && optB m (l.getD i default).1 (l.getD i default).2 && (l.take i).all (apB m (l.getD i default))
def cellB (m:Mdl) (g:List Int) (l:List (Int × Int)):Bool:=(List.range l.length).all (cellF m g l)
def grB (m:Mdl) (g:List Int):Bool:=(List.range g.length).all fun i=>decide (0≤g.getD i 0∧g.getD i 0<m.cls.length∧(i=0∨g.getD (i - 1) 0<g.getD i 0))
def covB (left:List (List Bool)) (cells:List (List (Int × Int))) (c:Int):Bool :=
  (List.range (left.getD c.toNat default).length).all fun o=>!(left.getD c.toNat default).getD o false || cells.any fun l=>l.any (isC c o)
def crowdedB (m:Mdl) (x:Nd) (left:List (List Bool)):Bool :=
  grB m x.grp && decide (x.cells.length<x.grp.length) && x.cells.all (cellB m x.grp) && x.grp.all (covB left x.cells)
theorem all_range {n:Nat} {f:Nat→Bool}:(List.range n).all f=true↔∀ i,i<n→f i=true:=by
  rw[List.all_eq_true]
  exact⟨fun h i hi=>h i (List.mem_range.2 hi),fun h i hi=>h i (List.mem_range.1 hi)⟩
theorem all_false {α:Type} {l:List α} {f:α→Bool} {x:α} (hx:x∈l) (h:f x=false):l.all f=false:=by
  rw[Bool.eq_false_iff];intro h2
  rw[List.all_eq_true] at h2
  rw[h2 x hx] at h;cases h
theorem range_false {n:Nat} {f:Nat→Bool} {i:Nat} (hi:i<n) (h:f i=false):(List.range n).all f=false:=all_false (List.mem_range.2 hi) h
theorem gr_mem {m:Mdl} {g:List Int} (h:grB m g=true):∀ c∈g,0≤c∧c<m.cls.length:=fun c hc=>by
  obtain ⟨i,hi,rfl⟩:=List.getElem_of_mem hc
  have:=all_range.1 h i hi
  rw[decide_eq_true_eq,List.getD_eq_getElem?_getD,List.getElem?_eq_getElem hi] at this
  exact⟨this.1,this.2.1⟩
theorem any_not {α:Type} (f:α→Bool):∀ (l:List α),(l.any fun x=>!f x) = !l.all f
  | []=>rfl
  | x::r=>by rw[List.any_cons,List.all_cons,any_not f r,Bool.not_and]
theorem crowded_cut1 {m:Mdl} {x:Nd} {left:List (List Bool)} (h:grB m x.grp=false):crowdedB m x left=false:=by unfold crowdedB;rw[h];rfl
theorem crowded_cut2 {m:Mdl} {x:Nd} {left:List (List Bool)} (h:¬x.cells.length<x.grp.length):crowdedB m x left=false:=by unfold crowdedB;rw[decide_eq_false h];simp
theorem crowded_cut3 {m:Mdl} {x:Nd} {left:List (List Bool)} (h:x.cells.all (cellB m x.grp)=false):crowdedB m x left=false:=by unfold crowdedB;rw[h];simp
theorem crowded_cut4 {m:Mdl} {x:Nd} {left:List (List Bool)} (h:x.grp.all (covB left x.cells)=false):crowdedB m x left=false:=by unfold crowdedB;rw[h];simp
theorem crowded_true {m:Mdl} {x:Nd} {left:List (List Bool)} (h1:grB m x.grp=true) (h2:x.cells.length<x.grp.length) (h3:x.cells.all (cellB m x.grp)=true) (h4:x.grp.all (covB left x.cells)=true):crowdedB m x left=true:=by unfold crowdedB;rw[h1,decide_eq_true h2,h3,h4];rfl
theorem indexCell_ok (l:List (List (Int × Int))) (g:FuncId) (caps:List AV) (objs:List Ob) (p:(List (Int × Int))→Bool) (hl:l.length<9223372036854775808) (hg:∀ x∈l,Holds Tryz.prog g ([.tree 2 (rowsOf eCh x)]++caps) objs (.lit (.bool (p x))) objs) :
    Holds Tryz.prog 126 [.tree 1 (rowsOf eCell l),.fn g caps] objs (.lit (.int .i64 (idxL p 0 l))) objs:=by
  generalize hres:idxL p 0 l=res
  refine Holds.of_body' (fn:=Tryz.f126) 19 objs.length [.tmp 4] Tryz.func126 rfl rfl rfl rfl rfl (by simp) ?_
  refine Vb (X3 @rows_length @rows_getD @eCell.eq_1) ?_
  refine W_loopS (fun k:Nat=>(⟨slots [(0,.tree 1 (rowsOf eCell l)),(1,.fn g caps),(7,.lit (.int .i64 l.length)),(8,.lit (.int .i64 k))],objs⟩:St)) (fun k=>k≤l.length∧idxL p k (l.drop k)=res) (fun k=>l.length - k) 0 ⟨Nat.zero_le _,hres⟩ (Xv X0) ?_
  rintro k ⟨hk,hr⟩ Ql hnl hel
  by_cases hk':k<l.length
  · have hx:=hg _ (getD_mem (d:=default) hk')
    have hd:=getD_drop0 l k default hk'
    generalize hxx:l.getD k default=x at *
    rw[hd,idxL] at hr
    simp only[List.cons_append,List.nil_append,eCell] at hx
    ((repeat' (first|refine Vb (X4 @rows_length @rows_getD @eCell.eq_1 @hxx) ?_|(refine Xi ?_ ?_<;>try intro ht)|exact Xx|fail))<;>try with_reducible intro K hK)
    refine callK_all hx (Nat.le_refl _) ?_
    ((try revert hK K);(repeat' (first|refine Vb (X3 @rows_length @rows_getD @eCell.eq_1) ?_|(refine Xi ?_ ?_<;>try intro ht)|fail)))
    · rw[if_pos (by assumption)] at hr
      rw[← hr]
      exact RetOK_all rfl (Nat.le_refl _) rfl
    · rw[if_neg (by simp_all)] at hr
      exact hnl _ (k+1) ⟨by omega,hr⟩ (by omega) (Xv X0)
  · ((repeat' (first|refine Vb (X3 @rows_length @rows_getD @eCell.eq_1) ?_|(refine Xi ?_ ?_<;>try intro ht)|exact Xx|fail)))
    rw[List.drop_eq_nil_of_le (by omega),idxL] at hr
    rw[← hr]
    exact RetOK_all rfl (Nat.le_refl _) rfl
theorem containsCell_ok (l:List (List (Int × Int))) (g:FuncId) (caps:List AV) (objs:List Ob) (p:(List (Int × Int))→Bool) (hl:l.length<9223372036854775808) (hg:∀ x∈l,Holds Tryz.prog g ([.tree 2 (rowsOf eCh x)]++caps) objs (.lit (.bool (p x))) objs) :
    Holds Tryz.prog 84 [.tree 1 (rowsOf eCell l),.fn g caps] objs (.lit (.bool (l.any p))) objs:=by
  rw[← idxL_any p l 0]
  refine Holds.of_body' (fn:=Tryz.f84) 9 objs.length [.tmp 4] Tryz.func84 rfl rfl rfl rfl rfl (by simp) ?_
  ((refine Vb (X3 @rows_length @rows_getD @eCell.eq_1) ?_)<;>try with_reducible intro K hK)
  refine callK_all (indexCell_ok l g caps objs p hl hg) (Nat.le_refl _) ?_
  ((try revert hK K);(refine Vb (X3 @rows_length @rows_getD @eCell.eq_1) ?_))
  exact RetOK_all rfl (Nat.le_refl _) rfl
theorem indexPr_ok (l:List Pr) (g:FuncId) (caps:List AV) (objs:List Ob) (p:Pr→Bool) (hl:l.length<9223372036854775808) (hg:∀ x∈l,Holds Tryz.prog g ([.agg (ePr x)]++caps) objs (.lit (.bool (p x))) objs) :
    Holds Tryz.prog 149 [.tree 4 (rowsOf ePr l),.fn g caps] objs (.lit (.int .i64 (idxL p 0 l))) objs:=by
  generalize hres:idxL p 0 l=res
  refine Holds.of_body' (fn:=Tryz.f149) 19 objs.length [.tmp 4] Tryz.func149 rfl rfl rfl rfl rfl (by simp) ?_
  refine Vb (X3 @rows_length @rows_getD @ePr.eq_1) ?_
  refine W_loopS (fun k:Nat=>(⟨slots [(0,.tree 4 (rowsOf ePr l)),(1,.fn g caps),(7,.lit (.int .i64 l.length)),(8,.lit (.int .i64 k))],objs⟩:St)) (fun k=>k≤l.length∧idxL p k (l.drop k)=res) (fun k=>l.length - k) 0 ⟨Nat.zero_le _,hres⟩ (Xv X0) ?_
  rintro k ⟨hk,hr⟩ Ql hnl hel
  by_cases hk':k<l.length
  · have hx:=hg _ (getD_mem (d:=default) hk')
    have hd:=getD_drop0 l k default hk'
    generalize hxx:l.getD k default=x at *
    rw[hd,idxL] at hr
    simp only[List.cons_append,List.nil_append,ePr] at hx
    ((repeat' (first|refine Vb (X4 @rows_length @rows_getD @ePr.eq_1 @hxx) ?_|(refine Xi ?_ ?_<;>try intro ht)|exact Xx|fail))<;>try with_reducible intro K hK)
    refine callK_all hx (Nat.le_refl _) ?_
    ((try revert hK K);(repeat' (first|refine Vb (X3 @rows_length @rows_getD @ePr.eq_1) ?_|(refine Xi ?_ ?_<;>try intro ht)|fail)))
    · rw[if_pos (by assumption)] at hr
      rw[← hr]
      exact RetOK_all rfl (Nat.le_refl _) rfl
    · rw[if_neg (by simp_all)] at hr
      exact hnl _ (k+1) ⟨by omega,hr⟩ (by omega) (Xv X0)
  · ((repeat' (first|refine Vb (X3 @rows_length @rows_getD @ePr.eq_1) ?_|(refine Xi ?_ ?_<;>try intro ht)|exact Xx|fail)))
    rw[List.drop_eq_nil_of_le (by omega),idxL] at hr
    rw[← hr]
    exact RetOK_all rfl (Nat.le_refl _) rfl
theorem containsPr_ok (l:List Pr) (g:FuncId) (caps:List AV) (objs:List Ob) (p:Pr→Bool) (hl:l.length<9223372036854775808) (hg:∀ x∈l,Holds Tryz.prog g ([.agg (ePr x)]++caps) objs (.lit (.bool (p x))) objs) :
    Holds Tryz.prog 144 [.tree 4 (rowsOf ePr l),.fn g caps] objs (.lit (.bool (l.any p))) objs:=by
  rw[← idxL_any p l 0]
  refine Holds.of_body' (fn:=Tryz.f144) 9 objs.length [.tmp 4] Tryz.func144 rfl rfl rfl rfl rfl (by simp) ?_
  ((refine Vb (X3 @rows_length @rows_getD @ePr.eq_1) ?_)<;>try with_reducible intro K hK)
  refine callK_all (indexPr_ok l g caps objs p hl hg) (Nat.le_refl _) ?_
  ((try revert hK K);(refine Vb (X3 @rows_length @rows_getD @ePr.eq_1) ?_))
  exact RetOK_all rfl (Nat.le_refl _) rfl
end T

