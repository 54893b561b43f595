import Derived.Test.YtibijngmebpmmaaMC
import Derived.Test.YtibijngmebpmmaaPB
import Derived.Test.YtibijngmebpmmaaSP
set_option linter.unusedVariables false
set_option linter.unusedSimpArgs false
set_option linter.unnecessarySimpa false
open Go Go.Am
namespace T
abbrev St3:=Nat × List (List Bool) × List Int
def eAb:List Int→AV
  | []=>.lit (.slice none 0 0)
  | x::r=>.tree 1 (ints (x::r))
def eSt (s:St3):List AV:=[.lit (.int .i64 s.1),.tree 1 (rowsOf eBs s.2.1),eAb s.2.2]
theorem eAb_ok (l:List Int):(∃ y,eAb l=AV.lit y∧y.oneCell'=true)∨∃ s r,eAb l=.tree s r:=by
  cases l with
  | nil=>exact .inl ⟨_,rfl,rfl⟩
  | cons x r=>exact .inr ⟨_,_,rfl⟩
theorem eAb_nr (l:List Int) (x:Value):noRefL [eAb l,.lit x]=true:=by cases l<;>rfl
theorem eAb_scal (l:List Int):scal (eAb l)=true:=by cases l<;>rfl
instance:Row eSt 3:=⟨fun _=>rfl,fun x v hv=>by
  simp only[eSt,List.mem_cons,List.not_mem_nil,or_false] at hv
  rcases hv with rfl | rfl | rfl
  · exact .inl ⟨_,rfl,rfl⟩
  · exact .inr ⟨_,_,rfl⟩
  · exact eAb_ok _⟩
def nd (P:List Nd) (i:Nat):Nd:=P.getD i default
def kidS (P:List Nd) (s:St3) (o:Nat):St3:=(((nd P s.1).kids.getD o 0).toNat,onlyV s.2.1 (nd P s.1).cls.toNat o,s.2.2++[(nd P s.1).cls])
def kidsT (P:List Nd) (s:St3) (n:Nat):List St3:=(List.range n).map (kidS P s)
def kidsF (P:List Nd) (s:St3):List St3:=kidsT P s (nd P s.1).kids.length
theorem kidsT_succ (P:List Nd) (s:St3) (n:Nat):kidsT P s (n+1)=kidsT P s n++[kidS P s n]:=by unfold kidsT;rw[List.range_succ,List.map_append];rfl
def vis (P:List Nd):Nat→St3→List St3
  | 0,_=>[]
  | f+1,s=>s::((kidsF P s).reverse.flatMap (vis P f))
def vs (P:List Nd) (s:St3):List St3:=vis P (P.length - s.1) s
def Down (P:List Nd):Prop:=∀ i,i<P.length→∀ k∈(nd P i).kids,(i:Int)<k∧k<P.length
theorem shaped_node {m:Mdl} {P:List Nd} (h:shapedB m P=true) {i:Nat} (hi:i<P.length):nodeB m P.length i (nd P i)=true:=by
  cases hb:nodeB m P.length i (nd P i) with
  | true=>rfl
  | false=>rw[shaped_bad hi hb] at h;cases h
theorem shaped_down {m:Mdl} {P:List Nd} (h:shapedB m P=true):Down P:=fun i hi k hk=>by
  have:=shaped_node h hi
  unfold nodeB at this
  rw[Bool.and_eq_true,List.all_eq_true] at this
  have h2:=this.2 k hk
  unfold kidB at h2
  exact of_decide_eq_true h2
theorem shaped_len {m:Mdl} {P:List Nd} (h:shapedB m P=true):1≤P.length∧P.length≤20000:=by
  by_cases hs:1≤P.length∧P.length≤20000
  · exact hs
  · rw[shaped_size hs] at h;cases h
theorem kid_mem {P:List Nd} {s t:St3} (h:t∈kidsF P s) :∃o,o<(nd P s.1).kids.length∧t=kidS P s o:=by
  unfold kidsF kidsT at h
  obtain ⟨o,ho,rfl⟩:=List.mem_map.1 h
  exact⟨o,List.mem_range.1 ho,rfl⟩
theorem kid_in {P:List Nd} (hd:Down P) {s:St3} (hs:s.1<P.length) {o:Nat} (ho:o<(nd P s.1).kids.length):s.1<(kidS P s o).1∧(kidS P s o).1<P.length∧(((kidS P s o).1:Nat):Int)=(nd P s.1).kids.getD o 0:=by
  have:=hd s.1 hs _ (getD_mem (l:=(nd P s.1).kids) (i:=o) (d:=0) ho)
  unfold kidS
  dsimp only
  omega
theorem vis_st {P:List Nd} (hd:Down P):∀ (f:Nat) (s:St3),s.1<P.length→P.length - s.1≤f→vis P f s=vis P (P.length - s.1) s:=by
  intro f
  induction f using Nat.strongRecOn with
  | _ f ih =>
    intro s hs hf
    cases f with
    | zero=>omega
    | succ f =>
      obtain ⟨g,hg⟩ :∃g,P.length - s.1=g+1:=⟨P.length - s.1 - 1,by omega⟩
      rw[hg,vis,vis]
      refine congrArg _ ?_
      have key:∀ t∈(kidsF P s).reverse,vis P f t=vis P g t:=fun t ht=>by
        obtain ⟨o,ho,rfl⟩:=kid_mem (List.mem_reverse.1 ht)
        obtain ⟨h1,h2,_⟩:=kid_in hd hs ho
        rw[ih f (by omega) _ h2 (by omega),ih g (by omega) _ h2 (by omega)]
      generalize (kidsF P s).reverse=L at key
      induction L with
      | nil=>rfl
      | cons t L ihL=>rw[List.flatMap_cons,List.flatMap_cons,key t (by simp),ihL fun u hu=>key u (by simp[hu])]
theorem vs_step {P:List Nd} (hd:Down P) {s:St3} (hs:s.1<P.length):vs P s=s::(kidsF P s).reverse.flatMap (vs P):=by
  unfold vs
  obtain ⟨g,hg⟩ :∃g,P.length - s.1=g+1:=⟨P.length - s.1 - 1,by omega⟩
  rw[hg,vis]
  refine congrArg _ ?_
  have key:∀ t∈(kidsF P s).reverse,vis P g t=vis P (P.length - t.1) t:=fun t ht=>by
    obtain ⟨o,ho,rfl⟩:=kid_mem (List.mem_reverse.1 ht)
    obtain ⟨h1,h2,_⟩:=kid_in hd hs ho
    exact vis_st hd g _ h2 (by omega)
  generalize (kidsF P s).reverse=L at key
  induction L with
  | nil=>rfl
  | cons t L ihL=>rw[List.flatMap_cons,List.flatMap_cons,key t (by simp),ihL fun u hu=>key u (by simp[hu])]
def runL {α:Type} (P:List Nd) (step:α→St3→α × Bool):List St3→α→α × Bool
  | [],a=>(a,true)
  | s::L,a=>if s.2.2.contains (nd P s.1).cls=true then (a,false) else if (step a s).2=true then runL P step L (step a s).1 else ((step a s).1,false)
def root (m:Mdl):St3:=(0,allT m,[])
def walkV {α:Type} (m:Mdl) (P:List Nd) (step:α→St3→α × Bool) (a:α):α × Bool :=
  if validV m=0∧shapedB m P=true then runL P step (vs P (root m)) a else (a,false)
def GoodS (m:Mdl) (P:List Nd) (s:St3):Prop:=s.1<P.length∧FitsP m s.2.1∧s.2.2.length≤s.1
theorem fits_map {m:Mdl} {x y:List (List Bool)} (h:FitsP m x) (he:y.map List.length=x.map List.length):FitsP m y:=by
  have hl:=congrArg List.length he
  rw[List.length_map,List.length_map] at hl
  refine⟨by rw[hl];exact h.1,fun i hi=>?_⟩
  have h2:=congrArg (fun z=>z[i]?) he
  simp only[List.getElem?_map] at h2
  rw[List.getElem?_eq_getElem hi,List.getElem?_eq_getElem (by omega)] at h2
  simp only[Option.map_some,Option.some.injEq] at h2
  rw[← h.2 i (by omega),List.getD_eq_getElem?_getD,List.getD_eq_getElem?_getD,List.getElem?_eq_getElem hi,List.getElem?_eq_getElem (by omega)]
  exact h2
theorem good_kid {m:Mdl} {P:List Nd} (hd:Down P) {s:St3} (h:GoodS m P s) {o:Nat} (ho:o<(nd P s.1).kids.length):GoodS m P (kidS P s o) :=
  ⟨(kid_in hd h.1 ho).2.1,fits_map h.2.1 (onlyV_len _ _ _),by
    have h1:=(kid_in hd h.1 ho).1
    have h2:=h.2.2
    show (s.2.2++[_]).length≤_
    rw[List.length_append,List.length_singleton];omega⟩
theorem all_fits {m:Mdl} (h:VM m):FitsP m (allT m):=by
  unfold allT
  rw[if_pos (valid_iff.2 h)]
  refine⟨by simp[allV],fun i hi=>?_⟩
  have hi':i<m.cls.length:=by simpa [allV] using hi
  unfold allV
  rw[map_getD _ _ _ hi',List.length_replicate]
def LenOK:List St3→Prop
  | []=>True
  | t::T=>T.length≤24 * t.1∧LenOK T
theorem LenOK.push {T:List St3} {i:Nat} (h:LenOK T) (hT:T.length≤24 * i):∀ (L:List St3),(∀ t∈L,i<t.1)→L.length≤24→LenOK (L++T)
  | [],_,_=>h
  | t::L,hl,hn=>by
    have h1:=hl t (by simp)
    have h2:=LenOK.push h hT L (fun u hu=>hl u (by simp[hu])) (by simp at hn;omega)
    refine⟨?_,h2⟩
    simp only[List.length_cons] at hn
    show (L++T).length≤_
    rw[List.length_append];omega
end T
open Go Go.Am
namespace T
end T

