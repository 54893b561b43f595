import Derived.Test.YtibijngmebpmmaaGreatSM
import Derived.Test.YtibijngmebpmmaaGreatSA
set_option linter.unusedVariables false
set_option linter.unusedSimpArgs false
set_option linter.unnecessarySimpa false
open Go Go.Am
namespace T
structure Nd where
  cls:Int
  kids:List Int
  mvs:List Mv
  grp:List Int
  cells:List (List (Int × Int))
  deriving Inhabited
def eCell (l:List (Int × Int)):List AV:=[.tree 2 (rowsOf eCh l)]
instance:Row eCell 1:=⟨fun _=>rfl,fun x v hv=>by
  simp only[eCell,List.mem_cons,List.not_mem_nil,or_false] at hv
  subst hv;exact .inr ⟨_,_,rfl⟩⟩
def eNd (x:Nd):List AV:=[.lit (.int .i64 x.cls),.tree 1 (ints x.kids),.tree 4 (rowsOf eMv x.mvs),.tree 1 (ints x.grp),.tree 1 (rowsOf eCell x.cells)]
instance:Row eNd 5:=⟨fun _=>rfl,fun x v hv=>by
  simp only[eNd,List.mem_cons,List.not_mem_nil,or_false] at hv
  rcases hv with rfl | rfl | rfl | rfl | rfl
  · exact .inl ⟨_,rfl,rfl⟩
  all_goals exact .inr ⟨_,_,rfl⟩⟩
def ePf (P:List Nd):List AV:=[.tree 5 (rowsOf eNd P)]
structure PB (P:List Nd):Prop where
  nds:P.length<9223372036854775808
  kids:∀ x∈P,x.kids.length<9223372036854775808
  mvs:∀ x∈P,x.mvs.length<9223372036854775808
  grp:∀ x∈P,x.grp.length<9223372036854775808
  cells:∀ x∈P,x.cells.length<9223372036854775808
  cell:∀ x∈P,∀ l∈x.cells,l.length<9223372036854775808
def ndB (m:Mdl) (x:Nd):Bool :=
  if x.cls = -1 then decide (x.kids.length=0∧(x.grp.length=0→x.cells.length=0)∧(0<x.grp.length→x.mvs.length=0))
  else decide (0≤x.cls∧x.cls<m.cls.length∧x.kids.length=(m.cls.getD x.cls.toNat default).length∧x.mvs.length=0∧x.grp.length=0∧x.cells.length=0)
def kidB (n i:Nat) (k:Int):Bool:=decide ((i:Int)<k∧k<n)
def nodeB (m:Mdl) (n i:Nat) (x:Nd):Bool:=ndB m x && x.kids.all (kidB n i)
def allK (P:List Nd):List Int:=P.flatMap (·.kids)
def parV (n:Nat) (l:List Int):List Int:=(List.range n).map fun (j:Nat)=>(l.count (j:Int):Int)
def shapedB (m:Mdl) (P:List Nd):Bool :=
  decide (1≤P.length∧P.length≤20000) && ((List.range P.length).all fun i=>nodeB m P.length i (P.getD i default)) && !((parV P.length (allK P)).drop 1).any (fun x=>x != 1)
theorem parV_len (n:Nat) (l:List Int):(parV n l).length=n:=by simp[parV]
theorem parV_get {n:Nat} (l:List Int) {j:Nat} (h:j<n):(parV n l).getD j 0=(l.count (j:Int):Int):=by
  unfold parV
  rw[List.getD_eq_getElem?_getD,List.getElem?_map,List.getElem?_range h];rfl
theorem parV_snoc (n:Nat) (l:List Int) (k:Nat) (h:k<n):parV n (l++[(k:Int)])=(parV n l).set k ((parV n l).getD k 0+1):=by
  apply List.ext_getElem?
  intro j
  rw[List.getElem?_set,parV_get l h]
  unfold parV
  rw[List.getElem?_map,List.length_map,List.length_range]
  by_cases hj:j<n
  · rw[List.getElem?_range hj,Option.map_some,List.count_append]
    by_cases e:k=j
    · subst e;rw[if_pos rfl,if_pos h];simp
    · rw[if_neg e,List.getElem?_map,List.getElem?_range hj,Option.map_some]
      have:((k:Int) == (j:Int))=false:=by rw[beq_eq_false_iff_ne];omega
      simp[List.count_cons,this]
  · rw[List.getElem?_eq_none (by simpa using hj)]
    split
    · omega
    · rw[List.getElem?_eq_none (by simpa using hj)];rfl
theorem parV_nil (n:Nat):parV n []=List.replicate n 0:=by
  apply List.ext_getElem?
  intro j
  unfold parV
  rw[List.getElem?_map,List.getElem?_replicate]
  by_cases hj:j<n
  · rw[List.getElem?_range hj,if_pos hj];rfl
  · rw[List.getElem?_eq_none (by simpa using hj),if_neg hj];rfl
theorem ndB_kids {m:Mdl} {x:Nd} (hm:VM m) (h:ndB m x=true):x.kids.length≤24:=by
  unfold ndB at h
  split at h
  · rw[decide_eq_true_eq] at h;omega
  · rw[decide_eq_true_eq] at h
    have:=hm.opt _ (getD_mem (l:=m.cls) (i:=x.cls.toNat) (d:=default) (by omega))
    omega
theorem allK_len {m:Mdl} {n:Nat} (hm:VM m):∀ (P:List Nd),(∀ x∈P,ndB m x=true)→(allK P).length≤24 * P.length
  | [],_=>by simp[allK]
  | x::r,h=>by
    have h1:=ndB_kids hm (h x (by simp))
    have h2:=allK_len (n:=n) hm r fun y hy=>h y (by simp[hy])
    unfold allK at h2 ⊢
    rw[List.flatMap_cons,List.length_append,List.length_cons];omega
theorem pc_le {n:Nat} {l:List Int} {j:Nat} (h:j<n):0≤(parV n l).getD j 0∧(parV n l).getD j 0≤l.length:=by
  rw[parV_get l h]
  have:=List.count_le_length (a:=(j:Int)) (l:=l)
  omega
theorem allK_snoc (P:List Nd) (x:Nd):allK (P++[x])=allK P++x.kids:=by unfold allK;rw[List.flatMap_append];simp
theorem shaped_bad {m:Mdl} {P:List Nd} {i:Nat} (hi:i<P.length) (h:nodeB m P.length i (P.getD i default)=false):shapedB m P=false:=by
  unfold shapedB
  have:((List.range P.length).all fun i=>nodeB m P.length i (P.getD i default))=false:=by
    rw[Bool.eq_false_iff]
    intro h2
    rw[List.all_eq_true] at h2
    rw[h2 i (List.mem_range.2 hi)] at h
    cases h
  rw[this,Bool.and_false,Bool.false_and]
theorem shaped_size {m:Mdl} {P:List Nd} (h:¬(1≤P.length∧P.length≤20000)):shapedB m P=false:=by
  unfold shapedB;rw[decide_eq_false h,Bool.false_and,Bool.false_and]
theorem shaped_end {m:Mdl} {P:List Nd} (h:1≤P.length∧P.length≤20000) (ha:∀ i,i<P.length→nodeB m P.length i (P.getD i default)=true):shapedB m P = !((parV P.length (allK P)).drop 1).any (fun x=>x != 1):=by
  unfold shapedB
  have:((List.range P.length).all fun i=>nodeB m P.length i (P.getD i default))=true:=by
    rw[List.all_eq_true];intro i hi;exact ha i (List.mem_range.1 hi)
  rw[this,decide_eq_true h,Bool.true_and,Bool.true_and]
end T
open Go Go.Am
namespace T
def isC (c o:Int) (y:Int × Int):Bool:=decide (y=(c,o))
def apB (m:Mdl) (a b:Int × Int):Bool:=decide (a.1=b.1) || clV m a.1 a.2 b.1 b.2
def cellF (m:Mdl) (g:List Int) (l:List (Int × Int)) (i:Nat):Bool:=g.contains (l.getD i default).1 && optB m (l.getD i default).1 (l.getD i default).2 && (l.take i).all (apB m (l.getD i default))
def cellB (m:Mdl) (g:List Int) (l:List (Int × Int)):Bool:=(List.range l.length).all (cellF m g l)
def grB (m:Mdl) (g:List Int):Bool:=(List.range g.length).all fun i=>decide (0≤g.getD i 0∧g.getD i 0<m.cls.length∧(i=0∨g.getD (i - 1) 0<g.getD i 0))
def covB (left:List (List Bool)) (cells:List (List (Int × Int))) (c:Int):Bool :=
  (List.range (left.getD c.toNat default).length).all fun o=>!(left.getD c.toNat default).getD o false || cells.any fun l=>l.any (isC c o)
def crowdedB (m:Mdl) (x:Nd) (left:List (List Bool)):Bool :=
  grB m x.grp && decide (x.cells.length<x.grp.length) && x.cells.all (cellB m x.grp) && x.grp.all (covB left x.cells)
theorem all_range {n:Nat} {f:Nat→Bool}:(List.range n).all f=true↔∀ i,i<n→f i=true:=by
  rw[List.all_eq_true]
  exact⟨fun h i hi=>h i (List.mem_range.2 hi),fun h i hi=>h i (List.mem_range.1 hi)⟩
theorem all_false {α:Type} {l:List α} {f:α→Bool} {x:α} (hx:x∈l) (h:f x=false):l.all f=false:=by
  rw[Bool.eq_false_iff];intro h2
  rw[List.all_eq_true] at h2
  rw[h2 x hx] at h;cases h
theorem range_false {n:Nat} {f:Nat→Bool} {i:Nat} (hi:i<n) (h:f i=false):(List.range n).all f=false:=all_false (List.mem_range.2 hi) h
theorem gr_mem {m:Mdl} {g:List Int} (h:grB m g=true):∀ c∈g,0≤c∧c<m.cls.length:=fun c hc=>by
  obtain ⟨i,hi,rfl⟩:=List.getElem_of_mem hc
  have:=all_range.1 h i hi
  rw[decide_eq_true_eq,List.getD_eq_getElem?_getD,List.getElem?_eq_getElem hi] at this
  exact⟨this.1,this.2.1⟩
theorem any_not {α:Type} (f:α→Bool):∀ (l:List α),(l.any fun x=>!f x) = !l.all f
  | []=>rfl
  | x::r=>by rw[List.any_cons,List.all_cons,any_not f r,Bool.not_and]
theorem crowded_cut1 {m:Mdl} {x:Nd} {left:List (List Bool)} (h:grB m x.grp=false):crowdedB m x left=false:=by unfold crowdedB;rw[h];rfl
theorem crowded_cut2 {m:Mdl} {x:Nd} {left:List (List Bool)} (h:¬x.cells.length<x.grp.length):crowdedB m x left=false:=by unfold crowdedB;rw[decide_eq_false h];simp
theorem crowded_cut3 {m:Mdl} {x:Nd} {left:List (List Bool)} (h:x.cells.all (cellB m x.grp)=false):crowdedB m x left=false:=by unfold crowdedB;rw[h];simp
theorem crowded_cut4 {m:Mdl} {x:Nd} {left:List (List Bool)} (h:x.grp.all (covB left x.cells)=false):crowdedB m x left=false:=by unfold crowdedB;rw[h];simp
theorem crowded_true {m:Mdl} {x:Nd} {left:List (List Bool)} (h1:grB m x.grp=true) (h2:x.cells.length<x.grp.length) (h3:x.cells.all (cellB m x.grp)=true) (h4:x.grp.all (covB left x.cells)=true):crowdedB m x left=true:=by unfold crowdedB;rw[h1,decide_eq_true h2,h3,h4];rfl
end T

