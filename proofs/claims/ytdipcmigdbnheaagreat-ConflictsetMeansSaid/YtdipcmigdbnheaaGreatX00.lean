import Derived.Orders
import Derived.Laws.AppendOwn
import Derived.Laws.MakeOwn
import Derived.Laws.Slices
import Derived.Laws.Small
set_option linter.unusedVariables false
set_option linter.unusedSimpArgs false
set_option linter.unnecessarySimpa false
set_option linter.unusedSectionVars false
set_option maxHeartbeats 64000000
set_option maxRecDepth 20000
open Nat renaming le_refl→aG,le_trans→iJ,lt_of_lt_of_le→Fi,ne_of_lt→lz,lt_or_ge→eF,mul_le_mul_right→mo,add_mul→fj,add_assoc→uN,add_zero→jr,mul_comm→pZ
open List renaming getElem?_eq_some_iff→aQ,getElem?_append_left→cn,getElem?_set→b6,range→aN,replicate→bY,mem_of_getElem?→gB,length_cons→dH,getElem?_take→sn,getElem?_drop→nr,getD_eq_getElem?_getD→aA,getElem?_append_right→eK
open Array renaming getD_eq_getD_getElem?→eY,getElem?_eq_some_iff→oA
open Option renaming bind_eq_some_iff→v3
namespace Go.Am
inductive AV where
  | undef
  | lit (v:Value)
  | tree (sz:Nat) (rows:List (List AV))
  | b7 (cells:List AV)
  | ref (id sz off len:Nat)
  | ptr (id r c:Nat)
  | agg (cs:List AV)
  | bG (vs:List AV)
  | fn (f:FuncId) (aW:List AV)
  | gJ (t:TypeId) (v:AV)
  | gk (id:Nat)
  deriving Inhabited
inductive Ob where
  | gone
  | var (cells:List AV)
  | arr (sz:Nat) (rows:List (List AV))
  | mp (ag:Nat) (L:List (List Int × AV))
  deriving Inhabited
structure St where
  env:Nat→AV
  aa:List Ob
def iM (e:Nat→AV) (d:Nat) (v:AV):Nat→AV:=fun k=>if k=d then v else e k
def cellAt (rows:List (List AV)) (r c:Nat):Option AV:=(rows[r]?).bind (·[c]?)
def fS (iO:List (Value × Value)):Array MapEntry:=(iO.mapIdx fun i p=>(⟨p.1,p.2,i⟩:MapEntry)).toArray
def kV (ag:Nat) (l:List Int):Value:=if ag=0 then .int .i64 (l.headD 0) else .agg (l.map fun n=>.int .i64 n).toArray
def jH (ag:Nat):Nat:=if ag=0 then 1 else ag
def dr (ag:Nat) (f:Nat→Value) (L:List (List Int × AV)):List (Value × Value):=L.mapIdx fun j p=>(kV ag p.1,f j)
theorem FZ (ag:Nat) (f:Nat→Value) (g:AV→AV) (L:List (List Int × AV)):dr ag f (L.map fun p=>(p.1,g p.2))=dr ag f L:=by
  unfold dr
  apply List.ext_getElem
  · simp
  · intros;simp
abbrev fQ:=Nat→Option (Nat × Nat × Nat)
inductive gF (w:World) (Z:Nat→Prop):AV→Value→Prop where
  | lit (v:Value):gF w Z (.lit v) v
  | nil (sz cap:Nat) (a:Option Addr):gF w Z (.tree sz []) (.slice a 0 cap)
  | tree (sz:Nat) (rows:List (List AV)) (b o cap:Nat) (f:Nat→Nat→Value) (hz:Z b) (hr:∀ row∈rows,row.length=sz) (An:rows.length≤cap)
      (hc:∀ r c x,cellAt rows r c=some x→w.cell? ⟨b,o+(r * sz+c),none⟩=some (f r c))
      (ht:∀ r c x,cellAt rows r c=some x→gF w Z x (f r c)):gF w Z (.tree sz rows) (.slice (some ⟨b,o,none⟩) rows.length cap)
inductive ay (os:List Ob) (w:World) (Z:Nat→Prop) (blk:fQ):AV→Value→Prop where
  | undef (cv:Value):ay os w Z blk .undef cv
  | bW (v:AV) (cv:Value) (h:gF w Z v cv):ay os w Z blk v cv
  | b7 (cells:List AV) (b o:Nat) (f:Nat→Value) (hz:Z b) (hc:∀ j x,cells[j]?=some x→w.cell? ⟨b,o+j,none⟩=some (f j))
      (ht:∀ j x,cells[j]?=some x→gF w Z x (f j)):ay os w Z blk (.b7 cells) (.pointer (some ⟨b,o,none⟩))
  | kh (id sz off len:Nat) (cv:Value) (h:os[id]?=some .gone) (h1:cv.oneCell'=true):ay os w Z blk (.ref id sz off len) cv
  | lU (id r c:Nat) (cv:Value) (h:os[id]?=some .gone) (h1:cv.oneCell'=true):ay os w Z blk (.ptr id r c) cv
  | ref (id sz off len b o cap cap':Nat) (rows:List (List AV)) (h:os[id]?=some (.arr sz rows)) (hb:blk id=some (b,o,cap))
      (hl:off+len≤rows.length) (hc:off+cap'≤cap) (kX:len≤cap'):ay os w Z blk (.ref id sz off len) (.slice (some ⟨b,o+off * sz,none⟩) len cap')
  | lE (id sz:Nat) (h:os[id]?=some (.arr sz [])) (hb:blk id=none):ay os w Z blk (.ref id sz 0 0) (.slice none 0 0)
  | lV (id sz off b x:Nat) (bo:Nat × Nat) (rows:List (List AV)) (h:os[id]?=some (.arr sz rows)) (hb:blk id=some (b,bo)) (hl:off≤rows.length) :
      ay os w Z blk (.ref id sz off 0) (.slice (some ⟨b,x,none⟩) 0 0)
  | mu (id c b cap:Nat) (cells:List AV) (h:os[id]?=some (.var cells)) (hb:blk id=some (b,0,cap)):ay os w Z blk (.ptr id 0 c) (.pointer (some ⟨b,c,none⟩))
  | mY (id r c sz b o cap:Nat) (rows:List (List AV)) (h:os[id]?=some (.arr sz rows)) (hb:blk id=some (b,o,cap)) :
      ay os w Z blk (.ptr id r c) (.pointer (some ⟨b,o+(r * sz+c),none⟩))
  | agg (cs:List AV) (aZ:Array Value) (hs:aZ.size=cs.length) (h:∀ j x,cs[j]?=some x→ay os w Z blk x (aZ.getD j Go.undef)):ay os w Z blk (.agg cs) (.agg aZ)
  | bG (cs:List AV) (aZ:Array Value) (hs:aZ.size=cs.length) (h:∀ j x,cs[j]?=some x→ay os w Z blk x (aZ.getD j Go.undef)):ay os w Z blk (.bG cs) (.tuple aZ)
  | fn (f:FuncId) (cs:List AV) (aZ:Array Value) (hs:aZ.size=cs.length) (h:∀ j x,cs[j]?=some x→ay os w Z blk x (aZ.getD j Go.undef)) :
      ay os w Z blk (.fn f cs) (.func (.func f) #[] aZ)
  | gJ (t:TypeId) (v:AV) (cv:Value) (h:ay os w Z blk v cv):ay os w Z blk (.gJ t v) (.iface t cv)
  | gk (id b:Nat) (ag:Nat) (L:List (List Int × AV)) (h:os[id]?=some (.mp ag L)) (hb:blk id=some (b,0,0)):ay os w Z blk (.gk id) (.map (some b))
  | pz (id:Nat) (cv:Value) (h:os[id]?=some .gone) (h1:cv.oneCell'=true):ay os w Z blk (.gk id) cv
def wS (os:List Ob) (w:World) (Z:Nat→Prop) (blk:fQ) (i:Nat):Ob→Prop
  | .gone=>True
  | .var cells=>∃ b cap cur t,blk i=some (b,0,cap)∧w.heap[b]?=some (.cells cur t (0,0))∧cur.size=cells.length ∧
      ∀ c v,cells[c]?=some v→ay os w Z blk v (cur.getD c Go.undef)
  | .arr sz rows=>0<sz∧(∀ row∈rows,row.length=sz) ∧
      ((blk i=none∧rows=[])∨∃ b o cap cur t,blk i=some (b,o,cap)∧w.heap[b]?=some (.cells cur t (0,0))∧o+cap * sz≤cur.size∧rows.length≤cap∧cap≤maxLen ∧
        ∀ r c v,cellAt rows r c=some v→ay os w Z blk v (cur.getD (o+(r * sz+c)) Go.undef))
  | .mp ag L=>∃ b,∃ f:Nat→Value,blk i=some (b,0,0)∧w.heap[b]?=some (.map (fS (dr ag f L)) L.length)∧(∀ p∈L,p.1.length=jH ag)∧∀ (j:Nat) p,L[j]?=some p→ay os w Z blk p.2 (f j)
structure Cx where
  w:World
  tmps:Array Value
  Z:Nat→Prop
  blk:fQ
def Live (os:List Ob) (i:Nat):Prop:=∃ o,os[i]?=some o∧o≠.gone
def nL (os:List Ob) (blk:fQ) (b:Nat):Prop:=∃ i o cap,Live os i∧blk i=some (b,o,cap)
structure bq (σ:St) (γ:Cx):Prop where
  aw:∀ k,ay σ.aa γ.w γ.Z γ.blk (σ.env k) (γ.tmps.getD k Go.undef)
  ez:∀ (i:Nat) o,σ.aa[i]?=some o→wS σ.aa γ.w γ.Z γ.blk i o
  inj:∀ i j b o c o' c',Live σ.aa i→Live σ.aa j→γ.blk i=some (b,o,c)→γ.blk j=some (b,o',c')→i=j
  nz:∀ b,nL σ.aa γ.blk b→¬ γ.Z b
  gG:∀ b,γ.Z b→b<γ.w.heap.size
def Ob.dW:Ob→Ob→Prop
  | .var a,.var b=>a.length=b.length
  | .arr s a,.arr s' b=>s=s'∧a.length=b.length
  | .mp a _,.mp b _=>a=b
  | _,_=>False
theorem Ob.jG {o:Ob} (h:o≠.gone):o.dW o:=by
  cases o<;>simp_all [Ob.dW]
theorem Ob.Gz {a b c:Ob} (h:a.dW b) (k:b.dW c):a.dW c:=by
  cases a<;>cases b<;>cases c<;>simp_all [Ob.dW]
theorem Ob.YL {a b:Ob} (h:a.dW b):a≠.gone∧b≠.gone:=by
  cases a<;>cases b<;>simp_all [Ob.dW]
structure Fr (yq:List Ob) (oO:Cx) (os:List Ob) (γ:Cx):Prop where
  lS:γ.w.os=oO.w.os
  tape:γ.w.tape=oO.w.tape
  output:γ.w.output=oO.w.output
  size:oO.w.heap.size≤γ.w.heap.size
  ax:∀ b,b<oO.w.heap.size→¬ nL yq oO.blk b→γ.w.heap[b]?=oO.w.heap[b]?
  z0:∀ b,oO.Z b→γ.Z b
  z1:∀ b,γ.Z b→oO.Z b∨nL yq oO.blk b∨oO.w.heap.size≤b
  own:∀ b,nL os γ.blk b→nL yq oO.blk b∨oO.w.heap.size≤b
  len:yq.length≤os.length
  kA:∀ i,i<yq.length→Live os i→γ.blk i=oO.blk i∧∃ o o',yq[i]?=some o∧os[i]?=some o'∧o.dW o'
theorem Fr.refl (os:List Ob) (γ:Cx):Fr os γ os γ :=
  ⟨rfl,rfl,rfl,aG _,fun _ _ _=>rfl,fun _ h=>h,fun _ h=>.inl h,fun _ h=>.inl h,aG _,fun _ _ ⟨o,ho,hg⟩=>⟨rfl,o,o,ho,ho,Ob.jG hg⟩⟩
theorem Fr.trans {a b c:List Ob} {x y z:Cx} (h:Fr a x b y) (k:Fr b y c z):Fr a x c z where
  lS:=k.lS.trans h.lS
  tape:=k.tape.trans h.tape
  output:=k.output.trans h.output
  size:=iJ h.size k.size
  ax:=fun n hn ho=>(k.ax n (Fi hn h.size) (fun hw=>(h.own n hw).elim ho (fun hl=>by omega))).trans (h.ax n hn ho)
  z0:=fun n hn=>k.z0 n (h.z0 n hn)
  z1:=fun n hn=>by
    rcases k.z1 n hn with h1 | h1 | h1
    · exact h.z1 n h1
    · rcases h.own n h1 with h2 | h2
      · exact .inr (.inl h2)
      · exact .inr (.inr h2)
    · exact .inr (.inr (iJ h.size h1))
  own:=fun n hn=>by
    rcases k.own n hn with h1 | h1
    · exact h.own n h1
    · exact .inr (iJ h.size h1)
  len:=iJ h.len k.len
  kA:=fun i hi hl=>by
    obtain ⟨h1,o,o',ho,cR,hk⟩:=k.kA i (Fi hi h.len) hl
    obtain ⟨h3,x,x',hx,df,aH⟩:=h.kA i hi ⟨o,ho,(Ob.YL hk).1⟩
    rw[ho] at df
    simp at df
    subst df
    exact⟨h1.trans h3,x,o',hx,cR,Ob.Gz aH hk⟩
theorem Ma {w w':World} {b o:Nat} (h:w'.heap[b]?=w.heap[b]?):w'.cell? ⟨b,o,none⟩=w.cell? ⟨b,o,none⟩:=by
  simp[World.cell?,h]
theorem gF.mono {w w':World} {Z Z':Nat→Prop} {v:AV} {cv:Value} (h:gF w Z v cv) (hz:∀ b,Z b→Z' b∧w'.heap[b]?=w.heap[b]?):gF w' Z' v cv:=by
  induction h with
  | lit v=>exact .lit v
  | nil sz cap a=>exact .nil sz cap a
  | tree sz rows b o cap f tQ hr An hc _ ih =>
    exact .tree sz rows b o cap f (hz b tQ).1 hr An (fun r c x hx=>by rw[Ma (hz b tQ).2];exact hc r c x hx) ih
theorem ay.mono {os os':List Ob} {w w':World} {Z Z':Nat→Prop} {blk jU:fQ} {v:AV} {cv:Value} (h:ay os w Z blk v cv)
    (hz:∀ b,Z b→Z' b∧w'.heap[b]?=w.heap[b]?)
    (ho:∀ i o,os[i]?=some o→os'[i]?=some .gone∨(jU i=blk i∧∃ o',os'[i]?=some o'∧o.dW o')):ay os' w' Z' jU v cv:=by
  induction h with
  | undef cv=>exact .undef cv
  | bW v cv h=>exact .bW v cv (h.mono hz)
  | b7 cells b o f tQ hc ht =>
    exact .b7 cells b o f (hz b tQ).1 (fun j x hx=>by rw[Ma (hz b tQ).2];exact hc j x hx) (fun j x hx=>(ht j x hx).mono hz)
  | kh id sz off len cv h h1 =>
    rcases ho id _ h with h' | ⟨_,o',_,hl⟩
    · exact .kh id sz off len cv h' h1
    · exact absurd hl (by simp[Ob.dW])
  | lU id r c cv h h1 =>
    rcases ho id _ h with h' | ⟨_,o',_,hl⟩
    · exact .lU id r c cv h' h1
    · exact absurd hl (by simp[Ob.dW])
  | ref id sz off len b o cap cap' rows h hb hl hc kX =>
    rcases ho id _ h with h' | ⟨fG,o',cR,hk⟩
    · exact .kh _ _ _ _ _ h' rfl
    · cases o'<;>simp[Ob.dW] at hk
      obtain ⟨rfl,hk⟩:=hk
      exact .ref id sz off len b o cap cap' _ cR (fG.trans hb) (by omega) hc kX
  | lE id sz h hb =>
    rcases ho id _ h with h' | ⟨fG,o',cR,hk⟩
    · exact .kh _ _ _ _ _ h' rfl
    · cases o'<;>simp[Ob.dW] at hk
      obtain ⟨rfl,hk⟩:=hk
      have aH:=List.eq_nil_of_length_eq_zero hk.symm
      subst aH
      exact .lE id sz cR (fG.trans hb)
  | lV id sz off b x bo rows h hb hl =>
    rcases ho id _ h with h' | ⟨fG,o',cR,hk⟩
    · exact .kh _ _ _ _ _ h' rfl
    · cases o'<;>simp[Ob.dW] at hk
      obtain ⟨rfl,hk⟩:=hk
      exact .lV id sz off b x bo _ cR (fG.trans hb) (by omega)
  | mu id c b cap cells h hb =>
    rcases ho id _ h with h' | ⟨fG,o',cR,hk⟩
    · exact .lU _ _ _ _ h' rfl
    · cases o'<;>simp[Ob.dW] at hk
      exact .mu id c b cap _ cR (fG.trans hb)
  | mY id r c sz b o cap rows h hb =>
    rcases ho id _ h with h' | ⟨fG,o',cR,hk⟩
    · exact .lU _ _ _ _ h' rfl
    · cases o'<;>simp[Ob.dW] at hk
      obtain ⟨rfl,hk⟩:=hk
      exact .mY id r c sz b o cap _ cR (fG.trans hb)
  | agg cs aZ hs _ ih=>exact .agg cs aZ hs ih
  | bG cs aZ hs _ ih=>exact .bG cs aZ hs ih
  | fn f cs aZ hs _ ih=>exact .fn f cs aZ hs ih
  | gJ t v cv _ ih=>exact .gJ t v cv ih
  | gk id b ag L h hb =>
    rcases ho id _ h with h' | ⟨fG,o',cR,hk⟩
    · exact .pz _ _ h' rfl
    · cases o'<;>simp[Ob.dW] at hk
      subst hk
      exact .gk id b _ _ cR (fG.trans hb)
  | pz id cv h h1 =>
    rcases ho id _ h with h' | ⟨_,o',cR,hk⟩
    · exact .pz _ _ h' h1
    · cases o'<;>simp[Ob.dW] at hk
theorem Live.lt {os:List Ob} {i:Nat} (h:Live os i):i<os.length:=by
  obtain ⟨o,ho,_⟩:=h
  exact (aQ.1 ho).1
theorem ay.same {os:List Ob} {w w':World} {Z:Nat→Prop} {blk:fQ} {v:AV} {cv:Value} (h:ay os w Z blk v cv) (hw:w'.heap=w.heap):ay os w' Z blk v cv :=
  h.mono (fun b hb=>⟨hb,by rw[hw]⟩) (fun i o ho=>by
    by_cases hg:o=.gone
    · subst hg;exact .inl ho
    · exact .inr ⟨rfl,o,ho,Ob.jG hg⟩)
theorem wS.mono {os os':List Ob} {w w':World} {Z Z':Nat→Prop} {blk jU:fQ} {i:Nat} {o:Ob} (h:wS os w Z blk i o)
    (hR:∀ v cv,ay os w Z blk v cv→ay os' w' Z' jU v cv) (hb:jU i=blk i)
    (hk:∀ b o c,blk i=some (b,o,c)→w'.heap[b]?=w.heap[b]?):wS os' w' Z' jU i o:=by
  cases o with
  | gone=>trivial
  | var cells =>
    obtain ⟨b,cap,cur,t,h1,h2,h3,h4⟩:=h
    exact⟨b,cap,cur,t,hb.trans h1,(hk _ _ _ h1).trans h2,h3,fun c v hv=>hR _ _ (h4 c v hv)⟩
  | arr sz rows =>
    obtain ⟨h0,hr,h⟩:=h
    refine⟨h0,hr,?_⟩
    rcases h with ⟨h1,h2⟩ | ⟨b,o,cap,cur,t,h1,h2,h3,h4,h5,h6⟩
    · exact .inl ⟨hb.trans h1,h2⟩
    · exact .inr ⟨b,o,cap,cur,t,hb.trans h1,(hk _ _ _ h1).trans h2,h3,h4,h5,fun r c v hv=>hR _ _ (h6 r c v hv)⟩
  | mp ag L =>
    obtain ⟨b,f,h1,h2,h3,h4⟩:=h
    exact⟨b,f,hb.trans h1,(hk _ _ _ h1).trans h2,h3,fun j p hp=>hR _ _ (h4 j p hp)⟩
theorem bq.put {σ:St} {γ:Cx} (h:bq σ γ) (d:Nat) (hd:d<γ.tmps.size) {v:AV} {cv:Value} (hv:ay σ.aa γ.w γ.Z γ.blk v cv) :
    bq { σ with env:=iM σ.env d v } { γ with tmps:=γ.tmps.setIfInBounds d cv } where
  aw:=fun k=>by
    simp only[iM]
    by_cases hk:k=d
    · subst hk
      simp[eY,hd]
      exact hv
    · simp only[hk,if_false,eY,Array.getElem?_setIfInBounds_ne (Ne.symm hk)]
      have:=h.aw k
      simpa [eY] using this
  ez:=h.ez
  inj:=h.inj
  nz:=h.nz
  gG:=h.gG
theorem bq.F5 {σ:St} {γ:Cx} (h:bq σ γ) {w':World} (hw:w'.heap=γ.w.heap):bq σ { γ with w:=w' } where
  aw:=fun k=>(h.aw k).same hw
  ez:=fun i o ho=>(h.ez i o ho).mono (fun v cv hv=>hv.same hw) rfl (fun b _ _ _=>by rw[hw])
  inj:=h.inj
  nz:=h.nz
  gG:=fun b hb=>by have:=h.gG b hb;simpa [hw] using this
theorem Fr.F5 {a b:List Ob} {x y:Cx} (h:Fr a x b y) {w':World} (hw:w'.heap=y.w.heap) (h1:w'.os=y.w.os) (h2:w'.tape=y.w.tape) (h3:w'.output=y.w.output) :
    Fr a x b { y with w:=w' } :=
  h.trans ⟨h1,h2,h3,by simp[hw],fun _ _ _=>by simp[hw],fun _ h=>h,fun _ h=>.inl h,fun _ h=>.inl h,aG _,fun _ _ ⟨o,ho,hg⟩=>⟨rfl,o,o,ho,ho,Ob.jG hg⟩⟩
theorem Fr.put {a b:List Ob} {x y:Cx} (h:Fr a x b y) (t:Array Value):Fr a x b { y with tmps:=t }:=⟨h.lS,h.tape,h.output,h.size,h.ax,h.z0,h.z1,h.own,h.len,h.kA⟩
def cS (blk:fQ) (n:Nat) (x:Option (Nat × Nat × Nat)):fQ:=fun i=>if i=n then x else blk i
def rn (os:List Ob) (w:World) (Z:Nat→Prop) (blk:fQ) (o cap:Nat) (cur:Array Value):Ob→Prop
  | .gone=>True
  | .var cells=>o=0∧cur.size=cells.length∧∀ c v,cells[c]?=some v→ay os w Z blk v (cur.getD c Go.undef)
  | .arr sz rows=>0<sz∧(∀ row∈rows,row.length=sz)∧o+cap * sz≤cur.size∧rows.length≤cap∧cap≤maxLen ∧
        ∀ r c v,cellAt rows r c=some v→ay os w Z blk v (cur.getD (o+(r * sz+c)) Go.undef)
  | .mp _ _=>False
theorem rn.GA {os os':List Ob} {w w':World} {Z Z':Nat→Prop} {blk jU:fQ} {i b o cap:Nat} {cur:Array Value} {t:TypeId} {ob:Ob} (h:rn os w Z blk o cap cur ob)
    (hR:∀ v cv,ay os w Z blk v cv→ay os' w' Z' jU v cv) (hb:jU i=some (b,o,cap)) (hk:w'.heap[b]?=some (.cells cur t (0,0))):wS os' w' Z' jU i ob:=by
  cases ob with
  | gone=>trivial
  | var cells =>
    obtain ⟨h0,h1,h2⟩:=h
    subst h0
    exact⟨b,cap,cur,t,hb,hk,h1,fun c v hv=>hR _ _ (h2 c v hv)⟩
  | arr sz rows =>
    obtain ⟨h0,h1,h2,h3,h4,h5⟩:=h
    exact⟨h0,h1,.inr ⟨b,o,cap,cur,t,hb,hk,h2,h3,h4,fun r c v hv=>hR _ _ (h5 r c v hv)⟩⟩
  | mp ag L=>exact h.elim
theorem bq.Ab {σ:St} {γ:Cx} (h:bq σ γ) {w':World} {x:Obj} {cap:Nat} {ob:Ob}
    (hw:w'.heap=γ.w.heap.push x) (aT:∀ os' w' jU,(∀ v cv,ay σ.aa γ.w γ.Z γ.blk v cv→ay os' w' γ.Z jU v cv)→jU σ.aa.length=some (γ.w.heap.size,0,cap)→w'.heap[γ.w.heap.size]?=some x→wS os' w' γ.Z jU σ.aa.length ob) :
    bq { σ with aa:=σ.aa++[ob] } { γ with w:=w',blk:=cS γ.blk σ.aa.length (some (γ.w.heap.size,0,cap)) }:=by
  have bw:∀ b,b<γ.w.heap.size→w'.heap[b]?=γ.w.heap[b]?:=fun b hb=>by
    rw[hw,Array.getElem?_push,if_neg (by omega)]
  have hR:∀ v cv,ay σ.aa γ.w γ.Z γ.blk v cv→ay (σ.aa++[ob]) w' γ.Z (cS γ.blk σ.aa.length (some (γ.w.heap.size,0,cap))) v cv:=fun v cv hv =>
    hv.mono (fun b hb=>⟨hb,bw b (h.gG b hb)⟩) (fun i o ho=>by
      have hi:i<σ.aa.length:=(aQ.1 ho).1
      have cR:(σ.aa++[ob])[i]?=some o:=by rw[cn hi];exact ho
      by_cases cQ:o=.gone
      · subst cQ;exact .inl cR
      · exact .inr ⟨by simp[cS,lz hi],o,cR,Ob.jG cQ⟩)
  have cz:∀ i,Live (σ.aa++[ob]) i→i=σ.aa.length∨Live σ.aa i:=by
    rintro i ⟨o,ho,cQ⟩
    rcases eF i σ.aa.length with hi | hi
    · rw[cn hi] at ho
      exact .inr ⟨o,ho,cQ⟩
    · left
      have:=(aQ.1 ho).1
      simp at this
      omega
  have nJ:∀ i b o c,Live σ.aa i→γ.blk i=some (b,o,c)→b<γ.w.heap.size:=by
    rintro i b o c ⟨x,hx,dy⟩ hb
    have:=h.ez i x hx
    cases x with
    | gone=>exact absurd rfl dy
    | var cells =>
      obtain ⟨b',cap',nR,t',h1,h2,_⟩:=this
      rw[hb] at h1;simp at h1
      obtain ⟨rfl,_⟩:=h1
      exact (oA.1 h2).1
    | arr sz rows =>
      obtain ⟨_,_,⟨h1,_⟩ | ⟨b',o',cap',nR,t',h1,h2,_⟩⟩:=this
      · rw[hb] at h1;simp at h1
      · rw[hb] at h1;simp at h1
        obtain ⟨rfl,_⟩:=h1
        exact (oA.1 h2).1
    | mp ag L =>
      obtain ⟨b',f',h1,h2,_⟩:=this
      rw[hb] at h1;simp at h1
      obtain ⟨rfl,_⟩:=h1
      exact (oA.1 h2).1
  refine⟨fun k=>hR _ _ (h.aw k),?_,?_,?_,?_⟩
  · intro i o ho
    rcases eF i σ.aa.length with hi | hi
    · have cR:σ.aa[i]?=some o:=by rw[cn hi] at ho;exact ho
      by_cases cQ:o=.gone
      · subst cQ;trivial
      · refine (h.ez i o cR).mono hR (by simp[cS,lz hi]) (fun b x c hb=>bw b (nJ i b x c ⟨o,cR,cQ⟩ hb))
    · have hi':i=σ.aa.length:=by
        have:=(aQ.1 ho).1
        simp at this
        omega
      subst hi'
      simp at ho
      subst ho
      exact aT _ _ _ hR (by simp[cS]) (by rw[hw];simp)
  · intro i j b o c o' c' hi hj fL gl
    simp only[cS] at fL gl
    rcases cz i hi with rfl | hi'<;>rcases cz j hj with rfl | c9
    · rfl
    · rw[if_pos rfl] at fL
      rw[if_neg (lz c9.lt)] at gl
      have:=nJ _ _ _ _ c9 gl
      simp at fL
      omega
    · rw[if_pos rfl] at gl
      rw[if_neg (lz hi'.lt)] at fL
      have:=nJ _ _ _ _ hi' fL
      simp at gl
      omega
    · rw[if_neg (lz c9.lt)] at gl
      rw[if_neg (lz hi'.lt)] at fL
      exact h.inj i j b o c o' c' hi' c9 fL gl
  · rintro b ⟨i,o,c,hi,hb⟩ hz
    simp only[cS] at hb
    rcases cz i hi with rfl | hi'
    · rw[if_pos rfl] at hb
      simp at hb
      have:=h.gG b hz
      omega
    · rw[if_neg (lz hi'.lt)] at hb
      exact h.nz b ⟨i,o,c,hi',hb⟩ hz
  · intro b hb
    have:=h.gG b hb
    rw[hw];simp;omega
theorem bq.push {σ:St} {γ:Cx} (h:bq σ γ) {w':World} {cur:Array Value} {t:TypeId} {cap:Nat} {ob:Ob}
    (hw:w'.heap=γ.w.heap.push (.cells cur t (0,0))) (aT:rn σ.aa γ.w γ.Z γ.blk 0 cap cur ob) :
    bq { σ with aa:=σ.aa++[ob] } { γ with w:=w',blk:=cS γ.blk σ.aa.length (some (γ.w.heap.size,0,cap)) } :=
  h.Ab hw fun _ _ _ hR hb hk=>aT.GA hR hb hk
theorem bq.blt {σ:St} {γ:Cx} (h:bq σ γ) {i b o c:Nat} (hl:Live σ.aa i) (hb:γ.blk i=some (b,o,c)):b<γ.w.heap.size:=by
  obtain ⟨x,hx,dy⟩:=hl
  have:=h.ez i x hx
  cases x with
  | gone=>exact absurd rfl dy
  | var cells =>
    obtain ⟨b',cap',nR,t',h1,h2,_⟩:=this
    rw[hb] at h1;simp at h1
    obtain ⟨rfl,_⟩:=h1
    exact (oA.1 h2).1
  | arr sz rows =>
    obtain ⟨_,_,⟨h1,_⟩ | ⟨b',o',cap',nR,t',h1,h2,_⟩⟩:=this
    · rw[hb] at h1;simp at h1
    · rw[hb] at h1;simp at h1
      obtain ⟨rfl,_⟩:=h1
      exact (oA.1 h2).1
  | mp ag L =>
    obtain ⟨b',f',h1,h2,_⟩:=this
    rw[hb] at h1;simp at h1
    obtain ⟨rfl,_⟩:=h1
    exact (oA.1 h2).1
theorem Fr.Ab {σ:St} {γ:Cx} {w':World} {x0:Obj} {cap:Nat} (ob:Ob)
    (hw:w'.heap=γ.w.heap.push x0) (h1:w'.os=γ.w.os) (h2:w'.tape=γ.w.tape) (h3:w'.output=γ.w.output) :
    Fr σ.aa γ (σ.aa++[ob]) { γ with w:=w',blk:=cS γ.blk σ.aa.length (some (γ.w.heap.size,0,cap)) } where
  lS:=h1
  tape:=h2
  output:=h3
  size:=by rw[hw];simp
  ax:=fun b hb _=>by simp only[hw,Array.getElem?_push];rw[if_neg (by omega)]
  z0:=fun _ h=>h
  z1:=fun _ h=>.inl h
  own:=by
    rintro b ⟨i,o,c,⟨x,hx,dy⟩,hb⟩
    simp only[cS] at hb
    split at hb
    · simp at hb;right;omega
    · rename_i dm
      have hi:i<σ.aa.length:=by have:=(aQ.1 hx).1;simp at this;omega
      rw[cn hi] at hx
      exact .inl ⟨i,o,c,⟨x,hx,dy⟩,hb⟩
  len:=by simp
  kA:=by
    rintro i hi ⟨x,hx,dy⟩
    have hx0:=hx
    rw[cn hi] at hx
    exact⟨by simp[cS,lz hi],x,x,hx,hx0,Ob.jG dy⟩
theorem Fr.push {σ:St} {γ:Cx} {w':World} {cur:Array Value} {t:TypeId} {cap:Nat} (ob:Ob)
    (hw:w'.heap=γ.w.heap.push (.cells cur t (0,0))) (h1:w'.os=γ.w.os) (h2:w'.tape=γ.w.tape) (h3:w'.output=γ.w.output) :
    Fr σ.aa γ (σ.aa++[ob]) { γ with w:=w',blk:=cS γ.blk σ.aa.length (some (γ.w.heap.size,0,cap)) }:=Fr.Ab ob hw h1 h2 h3
theorem bq.kill {σ:St} {γ:Cx} (h:bq σ γ) (id:Nat):bq { σ with aa:=σ.aa.set id .gone } γ:=by
  have hR:∀ v cv,ay σ.aa γ.w γ.Z γ.blk v cv→ay (σ.aa.set id .gone) γ.w γ.Z γ.blk v cv:=fun v cv hv =>
    hv.mono (fun b hb=>⟨hb,rfl⟩) (fun i o ho=>by
      have hi:i<σ.aa.length:=(aQ.1 ho).1
      rw[b6]
      by_cases lG:id=i
      · left;simp[lG,hi]
      · rw[if_neg lG]
        by_cases cQ:o=.gone
        · subst cQ;exact .inl ho
        · exact .inr ⟨rfl,o,ho,Ob.jG cQ⟩)
  have cz:∀ i,Live (σ.aa.set id .gone) i→Live σ.aa i:=by
    rintro i ⟨o,ho,cQ⟩
    rw[b6] at ho
    split at ho
    · split at ho<;>simp at ho;exact absurd ho.symm cQ
    · exact⟨o,ho,cQ⟩
  refine⟨fun k=>hR _ _ (h.aw k),?_,fun i j b o c o' c' hi hj=>h.inj i j b o c o' c' (cz i hi) (cz j hj),?_,h.gG⟩
  · intro i o ho
    rw[b6] at ho
    split at ho
    · split at ho<;>simp at ho
      subst ho
      trivial
    · exact (h.ez i o ho).mono hR rfl (fun _ _ _ _=>rfl)
  · rintro b ⟨i,o,c,hi,hb⟩
    exact h.nz b ⟨i,o,c,cz i hi,hb⟩
theorem Fr.kill (os:List Ob) (γ:Cx) (id:Nat):Fr os γ (os.set id .gone) γ where
  lS:=rfl
  tape:=rfl
  output:=rfl
  size:=aG _
  ax:=fun _ _ _=>rfl
  z0:=fun _ h=>h
  z1:=fun _ h=>.inl h
  own:=by
    rintro b ⟨i,o,c,⟨x,hx,dy⟩,hb⟩
    rw[b6] at hx
    split at hx
    · split at hx<;>simp at hx;exact absurd hx.symm dy
    · exact .inl ⟨i,o,c,⟨x,hx,dy⟩,hb⟩
  len:=by simp
  kA:=by
    rintro i hi ⟨x,hx,dy⟩
    have hx0:=hx
    rw[b6] at hx
    split at hx
    · split at hx<;>simp at hx;exact absurd hx.symm dy
    · exact⟨rfl,x,x,hx,hx0,Ob.jG dy⟩
theorem bq.CV {σ:St} {γ:Cx} (h:bq σ γ) {id:Nat} {ob ob':Ob} (ho:σ.aa[id]?=some ob) (hg:ob≠.gone) (q9:ob.dW ob') {b o cap:Nat} (hb:γ.blk id=some (b,o,cap))
    {w':World} (m0:∀ k,k≠b→w'.heap[k]?=γ.w.heap[k]?) (a9:w'.heap.size=γ.w.heap.size)
    (aT:∀ os',(∀ v cv,ay σ.aa γ.w γ.Z γ.blk v cv→ay os' w' γ.Z γ.blk v cv)→wS os' w' γ.Z γ.blk id ob'):bq { σ with aa:=σ.aa.set id ob' } { γ with w:=w' }:=by
  have cV:id<σ.aa.length:=(aQ.1 ho).1
  have oJ:Live σ.aa id:=⟨ob,ho,hg⟩
  have qj:ob'≠.gone:=by intro e;subst e;cases ob<;>simp[Ob.dW] at q9
  have hR:∀ v cv,ay σ.aa γ.w γ.Z γ.blk v cv→ay (σ.aa.set id ob') w' γ.Z γ.blk v cv:=fun v cv hv =>
    hv.mono (fun z hz=>⟨hz,m0 z (fun e=>h.nz b ⟨id,o,cap,oJ,hb⟩ (e ▸ hz))⟩) (fun i x hx=>by
      rw[b6]
      by_cases lG:id=i
      · subst lG
        rw[ho] at hx
        simp at hx
        subst hx
        right
        refine⟨rfl,ob',by simp[cV],q9⟩
      · rw[if_neg lG]
        by_cases cQ:x=.gone
        · subst cQ;exact .inl hx
        · exact .inr ⟨rfl,x,hx,Ob.jG cQ⟩)
  have cz:∀ i,Live (σ.aa.set id ob') i→Live σ.aa i:=by
    rintro i ⟨x,hx,dy⟩
    rw[b6] at hx
    split at hx
    · rename_i e;subst e;exact oJ
    · exact⟨x,hx,dy⟩
  refine⟨fun k=>hR _ _ (h.aw k),?_,fun i j b o c o' c' hi hj=>h.inj i j b o c o' c' (cz i hi) (cz j hj),?_,fun z hz=>by rw[a9];exact h.gG z hz⟩
  · intro i x hx
    rw[b6] at hx
    by_cases lG:id=i
    · subst lG
      rw[if_pos rfl,if_pos cV] at hx
      simp at hx
      subst hx
      exact aT _ hR
    · rw[if_neg lG] at hx
      by_cases cQ:x=.gone
      · subst cQ;trivial
      · refine (h.ez i x hx).mono hR rfl (fun z y c hz=>m0 z (fun e=>lG ?_))
        subst e
        exact h.inj id i z o cap y c oJ ⟨x,hx,cQ⟩ hb hz
  · rintro z ⟨i,y,c,hi,hz⟩
    exact h.nz z ⟨i,y,c,cz i hi,hz⟩
theorem bq.write {σ:St} {γ:Cx} (h:bq σ γ) {id:Nat} {ob ob':Ob} (ho:σ.aa[id]?=some ob) (hg:ob≠.gone) (q9:ob.dW ob') {b o cap:Nat} (hb:γ.blk id=some (b,o,cap))
    {w':World} {cur:Array Value} {t:TypeId} (hw:w'.heap[b]?=some (.cells cur t (0,0))) (m0:∀ k,k≠b→w'.heap[k]?=γ.w.heap[k]?) (a9:w'.heap.size=γ.w.heap.size)
    (aT:rn σ.aa γ.w γ.Z γ.blk o cap cur ob'):bq { σ with aa:=σ.aa.set id ob' } { γ with w:=w' } :=
  h.CV ho hg q9 hb m0 a9 fun _ hR=>aT.GA hR hb hw
theorem Fr.write {σ:St} {γ:Cx} {id:Nat} {ob:Ob} (ob':Ob) (ho:σ.aa[id]?=some ob) (hg:ob≠.gone) (q9:ob.dW ob') {b o cap:Nat} (hb:γ.blk id=some (b,o,cap))
    {w':World} (m0:∀ k,k≠b→w'.heap[k]?=γ.w.heap[k]?) (a9:w'.heap.size=γ.w.heap.size) (h1:w'.os=γ.w.os) (h2:w'.tape=γ.w.tape) (h3:w'.output=γ.w.output) :
    Fr σ.aa γ (σ.aa.set id ob') { γ with w:=w' } where
  lS:=h1
  tape:=h2
  output:=h3
  size:=by simp[a9]
  ax:=fun z _ u5=>m0 z (fun e=>u5 ⟨id,o,cap,⟨ob,ho,hg⟩,e ▸ hb⟩)
  z0:=fun _ h=>h
  z1:=fun _ h=>.inl h
  own:=by
    rintro z ⟨i,y,c,⟨x,hx,dy⟩,hz⟩
    rw[b6] at hx
    split at hx
    · rename_i e;subst e;exact .inl ⟨id,y,c,⟨ob,ho,hg⟩,hz⟩
    · exact .inl ⟨i,y,c,⟨x,hx,dy⟩,hz⟩
  len:=by simp
  kA:=by
    rintro i hi ⟨x,hx,dy⟩
    have hx0:=hx
    rw[b6] at hx
    split at hx
    · rename_i e;subst e;exact⟨rfl,ob,ob',ho,by rw[b6];simp[hi],q9⟩
    · exact⟨rfl,x,x,hx,hx0,Ob.jG dy⟩
end Go.Am
namespace Go.Am
structure Ty where
  kind:Nat
  size:Nat
  bytes:Nat
  elem:Nat
  len:Nat
  zero:Option (List Value)
  aL:List (Nat × Nat × Nat)
def tW (P:Program) (t:TypeId):Nat:=match P.info? t with | some i=>i.size | none=>0
def ty (P:Program) (t:TypeId):Ty :=
  match P.info? t,P.underlying t with
  | some i,some d =>
    let base:Ty:={ kind:=0,size:=i.size,bytes:=i.bytes,elem:=0,len:=0,zero:=i.zero.map (·.cells.toList),aL:=[] }
    match d with
    | .slice e=>{ base with kind:=1,elem:=e }
    | .array n e=>{ base with kind:=2,elem:=e,len:=n }
    | .struct fs=>{ base with kind:=3,aL:=fs.toList.map fun f=>(f.offset,f.type,tW P f.type) }
    | .string=>{ base with kind:=4 }
    | .int _=>{ base with kind:=5 }
    | .bool=>{ base with kind:=6 }
    | .pointer e=>{ base with kind:=7,elem:=e }
    | .map _ e=>{ base with kind:=8,elem:=e }
    | .func _ _ _=>{ base with kind:=9 }
    | _=>base
  | _,_=>{ kind:=99,size:=0,bytes:=0,elem:=0,len:=0,zero:=none,aL:=[] }
def Ty.isAgg (t:Ty):Bool:=t.kind == 2 || t.kind == 3
theorem rA {P:Program} {t:TypeId} (h:(ty P t).kind≠99) :∃i d,P.info? t=some i∧P.underlying t=some d∧(ty P t).size=i.size∧(ty P t).bytes=i.bytes∧(ty P t).zero=i.zero.map (·.cells.toList):=by
  unfold ty at h ⊢
  cases hi:P.info? t with
  | none=>simp[hi] at h
  | some i =>
    cases hd:P.underlying t with
    | none=>simp[hi,hd] at h
    | some d =>
      refine⟨i,d,rfl,rfl,?_,?_,?_⟩<;>cases d<;>rfl
theorem ry {P:Program} {t:TypeId} (h:(ty P t).kind=1):P.underlying t=some (.slice (ty P t).elem):=by
  unfold ty at h ⊢
  cases hi:P.info? t<;>cases hd:P.underlying t<;>simp[hi,hd] at h ⊢
  rename_i i d
  cases d<;>simp at h ⊢
theorem L0 {P:Program} {t:TypeId} (h:(ty P t).kind=2):P.underlying t=some (.array (ty P t).len (ty P t).elem):=by
  unfold ty at h ⊢
  cases hi:P.info? t<;>cases hd:P.underlying t<;>simp[hi,hd] at h ⊢
  rename_i i d
  cases d<;>simp at h ⊢
theorem Gs {P:Program} {t:TypeId} (h:(ty P t).kind=3) :∃fs,P.underlying t=some (.struct fs)∧(ty P t).aL=fs.toList.map fun f=>(f.offset,f.type,tW P f.type):=by
  unfold ty at h ⊢
  cases hi:P.info? t<;>cases hd:P.underlying t<;>simp[hi,hd] at h ⊢
  rename_i i d
  cases d<;>simp at h ⊢
theorem Yp {P:Program} {t:TypeId} (h:(ty P t).kind=6):P.underlying t=some .bool:=by
  unfold ty at h
  cases hi:P.info? t<;>cases hd:P.underlying t<;>simp[hi,hd] at h ⊢
  rename_i i d
  cases d<;>simp at h ⊢
def dS:Value→AV
  | .agg cs=>.agg (cs.toList.map .lit)
  | v=>.lit v
def ev (σ:St):Operand→AV
  | .tmp t=>σ.env t
  | .const v=>dS v
  | .func f=>.fn f []
  | .global _=>.undef
def St.put (σ:St) (dst:Option Tmp) (v:AV):St :=
  match dst with
  | some d=>{ σ with env:=iM σ.env d v }
  | none=>σ
def cf:AV→Bool
  | .lit v=>v.oneCell'
  | .tree .. | .b7 _ | .ref .. | .ptr .. | .fn .. | .gJ .. | .gk ..=>true
  | _=>false
def cellsOf:AV→List AV
  | .agg cs=>cs
  | v=>[v]
def setCells (cells:List AV) (c:Nat):List AV→List AV
  | []=>cells
  | v::vs=>setCells (cells.set c v) (c+1) vs
def lC (place:Nat→Option (Nat × Nat)) (cells:List AV):List (Nat × AV)→Option (List AV)
  | []=>some cells
  | (i,v)::rest =>
    match place i with
    | none=>none
    | some (off,size)=>if (cellsOf v).length=size∧off+size≤cells.length then lC place (setCells cells off (cellsOf v)) rest else none
def lD (sz:Nat):Nat→List AV→List (List AV)
  | 0,_=>[]
  | n+1,cs=>cs.take sz::lD sz n (cs.drop sz)
def rowOf (σ:St) (id r:Nat):Option (List AV) :=
  match σ.aa[id]? with
  | some (.var cells)=>if r=0 then some cells else none
  | some (.arr _ rows)=>rows[r]?
  | _=>none
def mU (σ:St) (id r:Nat) (row:List AV):St :=
  match σ.aa[id]? with
  | some (.var _)=>{ σ with aa:=σ.aa.set id (.var row) }
  | some (.arr sz rows)=>{ σ with aa:=σ.aa.set id (.arr sz (rows.set r row)) }
  | _=>σ
def lA (t:Ty) (cells:List AV) (c:Nat) (K:AV→Prop):Prop :=
  if t.isAgg then c+t.size≤cells.length∧K (.agg ((cells.drop c).take t.size))
  else match cells[c]? with
    | some v=>K v
    | none=>False
def nH:List AV→Option (List Int)
  | []=>some []
  | .lit (.int .i64 a)::r=>(nH r).map (a::·)
  | _=>none
def u4 (P:Program) (t:TypeId) (n:Nat):Prop :=
  ∀ (w:World) (as bs:List Int),as.length=n→bs.length=n →
    (Op.equalIn 10000 t (.agg (as.map (Value.int .i64)).toArray) (.agg (bs.map (Value.int .i64)).toArray)).run P w=.ok (decide (as=bs)) w
def yr (k:IntKind) (a b:Int):Int:=k.wrap ((BitVec.ofInt k.bits a &&& BitVec.ofInt k.bits b).toNat)
def Mb (a b:Int):Int:=IntKind.i64.wrap ((BitVec.ofInt 64 a &&& BitVec.ofInt 64 b).toNat)
theorem Mc (a b:Int):yr .i64 a b=Mb a b:=by unfold yr Mb;rfl
def fP (op:BinOp) (k:IntKind) (a b:Int) (K:Value→Prop):Prop :=
  match op with
  | .add=>(k.min≤a+b∧a+b≤k.max)∧K (.int k (a+b))
  | .sub=>(k.min≤a - b∧a - b≤k.max)∧K (.int k (a - b))
  | .mul=>(k.min≤a * b∧a * b≤k.max)∧K (.int k (a * b))
  | .quo=>(0≤a∧0<b∧a≤k.max)∧K (.int k (a / b))
  | .rem=>b≠0∧K (.int k (a.tmod b))
  | .and=>K (.int k (yr k a b))
  | .shr=>(0≤b∧b.toNat≤k.bits)∧K (.int k (a / 2 ^ b.toNat))
  | .eql=>K (.bool (a == b))
  | .neq=>K (.bool (a != b))
  | .lss=>K (.bool (decide (a<b)))
  | .leq=>K (.bool (decide (a≤b)))
  | .gtr=>K (.bool (decide (a > b)))
  | .geq=>K (.bool (decide (a ≥ b)))
  | _=>False
def fm (t:Bool):AV→AV→AV
  | .lit (.bool x),.lit (.bool y)=>.lit (.bool (bif t then x else y))
  | a,b=>if t then a else b
def mW (σ:St):AV→Option (Nat × List (List AV))
  | .tree sz rows=>some (sz,rows)
  | .ref id sz off len =>
    match σ.aa[id]? with
    | some (.arr cO rows)=>if cO=sz then some (sz,(rows.drop off).take len) else none
    | _=>none
  | _=>none
def py (σ:St) (sz:Nat):AV→Option (List (List AV) × St)
  | .lit (.slice none 0 0)=>some ([],σ)
  | .ref id cO off len =>
    match σ.aa[id]? with
    | some (.arr kf rows)=>if kf=cO∧cO=sz then some ((rows.drop off).take len,{ σ with aa:=σ.aa.set id .gone }) else none
    | _=>none
  | _=>none
end Go.Am
namespace Go.Am
variable (P:Program)
def jx (l:List Int):List (List Int × AV)→Nat→Option Nat
  | [],_=>none
  | p::r,i=>if p.1=l then some i else jx l r (i+1)
def mV (l:List Int) (L:List (List Int × AV)):Option AV:=(jx l L 0).bind fun i=>(L[i]?).map (·.2)
def fo (l:List Int) (v:AV) (L:List (List Int × AV)):List (List Int × AV) :=
  match jx l L 0 with
  | some i=>L.set i (l,v)
  | none=>L++[(l,v)]
def x9 (l:List Int) (L:List (List Int × AV)):Nat:=(jx l L 0).getD L.length
def oF (n:Nat) (v:AV) (L:List (List Int × AV)):List (List Int × AV):=L.set n ((L.getD n ([],.undef)).1,v)
def ke (P:Program) (t:TypeId) (ag:Nat):Prop:=∃ kt et,P.underlying t=some (.map kt et)∧∀ l:List Int,l.length=jH ag →
  (∀ e w,(Instr.checkKey e 10000 kt (kV ag l)).run P w=.ok () w)∧(∀ w,(Instr.keyThatStays (kV ag l) (kV ag l)).run P w=.ok (kV ag l) w) ∧
  ∀ (f:Nat→Value) (L:List (List Int × AV)) w,(∀ p∈L,p.1.length=jH ag)→(Instr.findKey kt (kV ag l) (fS (dr ag f L)).toList).run P w=.ok ((jx l L 0).map fun i=>(i,f i)) w
def zeroV (P:Program) (t:TypeId):Option Value :=
  match P.info? t with
  | some i=>i.zero
  | none=>none
def x8 (P:Program) (t:TypeId):Nat :=
  match P.underlying t with
  | some (.map kt _)=>if (ty P kt).isAgg then (ty P kt).size else 0
  | _=>0
def keyOf:AV→Option (Nat × List Int)
  | .lit (.int .i64 n)=>some (0,[n])
  | .agg cs=>(nH cs).map fun l=>(l.length,l)
  | _=>none
def kZ (σ:St):AV→Option (Nat × Nat × List (List Int × AV))
  | .gk id =>
    match σ.aa[id]? with
    | some (.mp ag L)=>some (id,ag,L)
    | _=>none
  | _=>none
def FR (s:ByteArray) (n:Nat):Int :=
  match s[n]? with
  | some b=>b.toNat
  | none=>0
def tN (P:Program) (t:TypeId):Bool :=
  match P.underlying t with
  | some (.interface _)=>true
  | some _=>false
  | none=>true
def cp (o:Oper) (σ:St) (K:St→Prop):Prop :=
  match o.op with
  | .move x | .assign x=>K (σ.put o.dst (ev σ x))
  | .pick c a b =>
    match ev σ c with
    | .lit (.bool t)=>K (σ.put o.dst (fm t (ev σ a) (ev σ b)))
    | _=>False
  | .alloc e =>
    (ty P e).kind≠99 ∧
    match (ty P e).zero with
    | some z=>K (({ σ with aa:=σ.aa++[.var (z.map .lit)] }:St).put o.dst (.ptr σ.aa.length 0 0))
    | none=>False
  | .box _ x=>(cellsOf (ev σ x)).all cf=true∧K (({ σ with aa:=σ.aa++[.var (cellsOf (ev σ x))] }:St).put o.dst (.ptr σ.aa.length 0 0))
  | .build t parts =>
    match (ty P t).kind,(ty P t).zero with
    | 3,some z =>
      match lC (fun i=>((ty P t).aL[i]?).map fun f=>(f.1,f.2.2)) (z.map .lit) (parts.toList.map fun p=>(p.1,ev σ p.2)) with
      | some cs=>((parts.toList.all fun p=>(cellsOf (ev σ p.2)).all cf)=true∧((ty P t).aL.all fun f=>decide (0<f.2.2))=true)∧K (σ.put o.dst (.agg cs))
      | none=>False
    | 2,some z =>
      match lC (fun i=>some (i * (ty P (ty P t).elem).size,(ty P (ty P t).elem).size)) (z.map .lit) (parts.toList.map fun p=>(p.1,ev σ p.2)) with
      | some cs=>((parts.toList.all fun p=>(cellsOf (ev σ p.2)).all cf)=true∧(ty P (ty P t).elem).kind≠99)∧K (σ.put o.dst (.agg cs))
      | none=>False
    | _,_=>False
  | .buildSlice t len parts =>
    match (ty P t).kind,(ty P (ty P t).elem).zero with
    | 1,some z =>
      match lC (fun i=>some (i * (ty P (ty P t).elem).size,(ty P (ty P t).elem).size)) ((aN len).flatMap fun _=>z.map .lit) (parts.toList.map fun p=>(p.1,ev σ p.2)) with
      | some cs=>((ty P (ty P t).elem).kind≠99∧0<(ty P (ty P t).elem).size∧z.length=(ty P (ty P t).elem).size∧len * (ty P (ty P t).elem).size≤16777216∧(parts.toList.all fun p=>(cellsOf (ev σ p.2)).all cf)=true) ∧
          K (({ σ with aa:=σ.aa++[.arr (ty P (ty P t).elem).size (lD (ty P (ty P t).elem).size len cs)] }:St).put o.dst (.ref σ.aa.length (ty P (ty P t).elem).size 0 len))
      | none=>False
    | _,_=>False
  | .load t a =>
    (ty P t).kind≠99 ∧
    match ev σ a with
    | .ptr id r c =>
      match rowOf σ id r with
      | some row=>lA (ty P t) row c fun v=>K (σ.put o.dst v)
      | none=>False
    | .b7 cells=>lA (ty P t) cells 0 fun v=>K (σ.put o.dst v)
    | _=>False
  | .store t a x =>
    (ty P t).kind≠99 ∧
    match ev σ a with
    | .ptr id r c =>
      match rowOf σ id r with
      | some row=>((cellsOf (ev σ x)).length=(ty P t).size∧c+(ty P t).size≤row.length∧(cellsOf (ev σ x)).all cf=true)∧K ((mU σ id r (setCells row c (cellsOf (ev σ x)))).put o.dst .undef)
      | none=>False
    | _=>False
  | .nilCheck x =>
    match ev σ x with
    | .ptr id r c =>
      match σ.aa[id]? with
      | some .gone=>False
      | some _=>K (σ.put o.dst (.ptr id r c))
      | none=>False
    | .b7 cells=>K (σ.put o.dst (.b7 cells))
    | _=>False
  | .binOp op t x y _ =>
    match ev σ x,ev σ y with
    | .lit (.int k a),.lit (.int k' b)=>k=k'∧fP op k a b fun v=>K (σ.put o.dst (.lit v))
    | .lit (.bool a),.lit (.bool b) =>
      (ty P t).kind=6 ∧
      match op with
      | .eql=>K (σ.put o.dst (.lit (.bool (a == b))))
      | .neq=>K (σ.put o.dst (.lit (.bool (a != b))))
      | _=>False
    | .tree _ rows,.lit (.slice none 0 0) =>
      ((ty P t).kind=1∧0<rows.length) ∧
      match op with
      | .eql=>K (σ.put o.dst (.lit (.bool false)))
      | .neq=>K (σ.put o.dst (.lit (.bool true)))
      | _=>False
    | .lit (.slice a _ _),.lit (.slice none 0 0) =>
      (ty P t).kind=1 ∧
      match op with
      | .eql=>K (σ.put o.dst (.lit (.bool a.isNone)))
      | .neq=>K (σ.put o.dst (.lit (.bool (!a.isNone))))
      | _=>False
    | .agg cs,.agg ds =>
      match nH cs,nH ds with
      | some as,some bs =>
        (u4 P t as.length∧bs.length=as.length∧P.eqGuardType P.depth t=false) ∧
        match op with
        | .eql=>K (σ.put o.dst (.lit (.bool (decide (as=bs)))))
        | .neq=>K (σ.put o.dst (.lit (.bool (!decide (as=bs)))))
        | _=>False
      | _,_=>False
    | _,_=>False
  | .unOp op _ x =>
    match op,ev σ x with
    | .not,.lit (.bool b)=>K (σ.put o.dst (.lit (.bool !b)))
    | .neg,.lit (.int k a)=>(k.min≤-a∧-a≤k.max)∧K (σ.put o.dst (.lit (.int k (-a))))
    | _,_=>False
  | .makeFunc fn first captured =>
    match fn with
    | .func f=>first.size=0∧K (σ.put o.dst (.fn f (captured.toList.map (ev σ))))
    | _=>False
  | .makeSlice t l c =>
    match (ty P t).kind,(ty P (ty P t).elem).zero,ev σ l,ev σ c with
    | 1,some z,.lit (.int k n),.lit (.int k' n') =>
      ((ty P (ty P t).elem).kind≠99∧0<(ty P (ty P t).elem).size∧z.length=(ty P (ty P t).elem).size∧n'=n∧0≤n∧n≤1099511627776∧(ty P (ty P t).elem).bytes≤128∧k=k) ∧
        K (({ σ with aa:=σ.aa++[.arr (ty P (ty P t).elem).size (bY n.toNat (z.map .lit))] }:St).put o.dst (.ref σ.aa.length (ty P (ty P t).elem).size 0 n.toNat))∧k'=k'
    | _,_,_,_=>False
  | .slice t x lo hi mx =>
    (ty P t).kind=1∧(ty P (ty P t).elem).kind≠99∧mx=none ∧
    match ev σ x with
    | .ref id sz off len =>
      match σ.aa[id]? with
      | some (.arr cO rows) =>
        cO=sz∧sz=(ty P (ty P t).elem).size ∧
        match lo.map (ev σ),hi.map (ev σ) with
        | none,none=>K (σ.put o.dst (.ref id sz off len))
        | some (.lit (.int _ l)),none=>(0≤l∧l≤len∧rows.length=rows.length)∧K (σ.put o.dst (.ref id sz (off+l.toNat) (len - l.toNat)))
        | none,some (.lit (.int _ h))=>(0≤h∧h≤len)∧K (σ.put o.dst (.ref id sz off h.toNat))
        | some (.lit (.int _ l)),some (.lit (.int _ h))=>(0≤l∧l≤h∧h≤len)∧K (σ.put o.dst (.ref id sz (off+l.toNat) (h.toNat - l.toNat)))
        | _,_=>False
      | _=>False
    | .tree sz rows =>
        (rows≠[]→sz=(ty P (ty P t).elem).size) ∧
        match lo.map (ev σ),hi.map (ev σ) with
        | none,none=>K (σ.put o.dst (.tree sz rows))
        | some (.lit (.int _ l)),none=>(0≤l∧l≤rows.length)∧K (σ.put o.dst (.tree sz (rows.drop l.toNat)))
        | none,some (.lit (.int _ h))=>(0≤h∧h≤rows.length)∧K (σ.put o.dst (.tree sz (rows.take h.toNat)))
        | some (.lit (.int _ l)),some (.lit (.int _ h))=>(0≤l∧l≤h∧h≤rows.length)∧K (σ.put o.dst (.tree sz ((rows.take h.toNat).drop l.toNat)))
        | _,_=>False
    | _=>False
  | .fieldAddr s x f =>
    match (ty P s).kind,(ty P s).aL[f]? with
    | 3,some (off,_,size) =>
      0<size ∧
      match ev σ x with
      | .ptr id r c =>
        match σ.aa[id]? with
        | some .gone=>False
        | some _=>K (σ.put o.dst (.ptr id r (c+off)))
        | none=>False
      | .b7 cells=>K (σ.put o.dst (.b7 (cells.drop off)))
      | _=>False
    | _,_=>False
  | .field s x f =>
    match (ty P s).kind,(ty P s).aL[f]? with
    | 3,some (off,t,size) =>
      (ty P t).kind≠99∧size=(ty P t).size ∧
      match ev σ x with
      | .agg cs=>if (ty P t).isAgg then off+size≤cs.length∧K (σ.put o.dst (.agg ((cs.drop off).take size))) else
          match cs[off]? with
          | some v=>K (σ.put o.dst v)
          | none=>False
      | _=>False
    | _,_=>False
  | .indexAddr t x i =>
    match (ty P t).kind,ev σ x,ev σ i with
    | 1,.ref id sz off len,.lit (.int _ n) =>
      match σ.aa[id]? with
      | some (.arr cO _)=>(cO=sz∧sz=(ty P (ty P t).elem).size∧(ty P (ty P t).elem).kind≠99∧0≤n∧n<len)∧K (σ.put o.dst (.ptr id (off+n.toNat) 0))
      | _=>False
    | 1,.tree sz rows,.lit (.int _ n)=>(sz=(ty P (ty P t).elem).size∧(ty P (ty P t).elem).kind≠99∧0≤n∧n<rows.length)∧K (σ.put o.dst (.b7 (rows.getD n.toNat [])))
    | 2,.ptr id r c,.lit (.int _ n) =>
      match σ.aa[id]? with
      | some .gone=>False
      | some _=>((ty P (ty P t).elem).kind≠99∧0≤n∧n<(ty P t).len)∧K (σ.put o.dst (.ptr id r (c+n.toNat * (ty P (ty P t).elem).size)))
      | none=>False
    | _,_,_=>False
  | .makeMap t r=>(r=none∧(ty P t).kind=8)∧K (({ σ with aa:=σ.aa++[.mp (x8 P t) []] }:St).put o.dst (.gk σ.aa.length))
  | .lookup t x i ok =>
    match keyOf (ev σ i),kZ σ (ev σ x),zeroV P (ty P t).elem with
    | some (ag,l),some (_,iy,L),some z=>(ke P t ag∧iy=ag∧l.length=jH ag∧(ty P t).kind=8∧ok=false)∧K (σ.put o.dst ((mV l L).getD (.lit z)))
    | _,_,_=>False
  | .mapUpdate t m k x =>
    match keyOf (ev σ k),kZ σ (ev σ m) with
    | some (ag,l),some (id,iy,L)=>(ke P t ag∧iy=ag∧l.length=jH ag)∧K (({ σ with aa:=σ.aa.set id (.mp ag (fo l (ev σ x) L)) }:St).put o.dst .undef)
    | _,_=>False
  | .mapEntry t m k =>
    match keyOf (ev σ k),kZ σ (ev σ m),zeroV P (ty P t).elem with
    | some (ag,l),some (id,iy,L),some z=>(ke P t ag∧iy=ag∧l.length=jH ag∧(ty P t).kind=8) ∧
      K (({ σ with aa:=σ.aa.set id (.mp ag (fo l ((mV l L).getD (.lit z)) L)) }:St).put o.dst (.bG [(mV l L).getD (.lit z),.lit (.int .i64 (x9 l L:Nat))]))
    | _,_,_=>False
  | .entryStore _ m s x =>
    match ev σ s,kZ σ (ev σ m) with
    | .lit (.int .i64 n),some (id,ag,L)=>(0≤n∧n<L.length)∧K (({ σ with aa:=σ.aa.set id (.mp ag (oF n.toNat (ev σ x) L)) }:St).put o.dst .undef)
    | _,_=>False
  | .index t x i =>
    match ev σ x,ev σ i with
    | .lit (.string s),.lit (.int _ n)=>(P.underlying t=some .string∧0≤n∧n<s.size)∧K (σ.put o.dst (.lit (.int .u8 (FR s n.toNat))))
    | _,_=>False
  | .makeInterface t x=>tN P t=false∧K (σ.put o.dst (.gJ t (ev σ x)))
  | .typeAssert x _ asserted ok =>
    match ev σ x with
    | .gJ t v=>(tN P asserted=false∧t=asserted∧ok=false)∧K (σ.put o.dst v)
    | _=>False
  | .extract x i =>
    match ev σ x with
    | .bG vs =>
      match vs[i]? with
      | some v=>K (σ.put o.dst v)
      | none=>False
    | _=>False
  | .call { callee:=.builtin .len,args,argTypes } =>
    match args.toList,argTypes.toList with
    | [x],[t] =>
      match ev σ x with
      | .ref id sz _ len =>
        (ty P t).kind=1 ∧
        match σ.aa[id]? with
        | some (.arr cO _)=>cO=sz∧K (σ.put o.dst (.lit (.int .i64 len)))
        | _=>False
      | .tree _ rows=>(ty P t).kind=1∧K (σ.put o.dst (.lit (.int .i64 rows.length)))
      | .lit (.slice none 0 0)=>(ty P t).kind=1∧K (σ.put o.dst (.lit (.int .i64 0)))
      | .gk id =>
        (ty P t).kind=8 ∧
        match σ.aa[id]? with
        | some (.mp _ L)=>K (σ.put o.dst (.lit (.int .i64 L.length)))
        | _=>False
      | _=>False
    | _,_=>False
  | .call { callee:=.builtin .append,args,argTypes } =>
    match args.toList,argTypes.toList with
    | [s,x],[t,t'] =>
      match (ty P t).kind,(ty P (ty P t).elem).zero,py σ (ty P (ty P t).elem).size (ev σ s),mW σ (ev σ x) with
      | 1,some z,some (pre,σ1),some (sz,src) =>
        (t'=t∧(ty P (ty P t).elem).kind≠99∧sz=(ty P (ty P t).elem).size∧0<sz∧z.length=sz∧pre.length+src.length≤549755813888∧(ty P (ty P t).elem).bytes≤128∧(src.all fun row=>row.all cf)=true) ∧
          K (({ σ1 with aa:=σ1.aa++[.arr sz (pre++src)] }:St).put o.dst (.ref σ1.aa.length sz 0 (pre.length+src.length)))
      | _,_,_,_=>False
    | _,_=>False
  | .call { callee:=.builtin .min,args,argTypes:=_ } =>
    match args.toList with
    | [x,y] =>
      match ev σ x,ev σ y with
      | .lit (.int k a),.lit (.int k' b)=>k=k'∧K (σ.put o.dst (.lit (.int k (min a b))))
      | _,_=>False
    | _=>False
  | .call { callee:=.builtin .max,args,argTypes:=_ } =>
    match args.toList with
    | [x,y] =>
      match ev σ x,ev σ y with
      | .lit (.int k a),.lit (.int k' b)=>k=k'∧K (σ.put o.dst (.lit (.int k (max a b))))
      | _,_=>False
    | _=>False
  | .call { callee:=.builtin .copy,args,argTypes } =>
    match args.toList,argTypes.toList with
    | [s,x],[t,_] =>
      match ev σ s,mW σ (ev σ x) with
      | .ref id sz off len,some (cO,src) =>
        match σ.aa[id]? with
        | some (.arr kf rows) =>
          ((ty P t).kind=1∧(ty P (ty P t).elem).kind≠99∧cO=sz∧kf=sz∧sz=(ty P (ty P t).elem).size∧0<sz∧(src.all fun row=>row.all cf)=true) ∧
            K (({ σ with aa:=σ.aa.set id (.arr sz (rows.take off++src.take (min src.length len)++rows.drop (off+min src.length len))) }:St).put o.dst (.lit (.int .i64 (min src.length len:Nat))))
        | _=>False
      | _,_=>False
    | _,_=>False
  | .call { callee:=.builtin .clear,args,argTypes } =>
    match args.toList,argTypes.toList with
    | [s],[t] =>
      match ev σ s,(ty P (ty P t).elem).zero with
      | .ref id sz off len,some z =>
        match σ.aa[id]? with
        | some (.arr cO rows) =>
          ((ty P t).kind=1∧(ty P (ty P t).elem).kind≠99∧cO=sz∧z.length=sz∧0<sz∧(z.all fun u=>u.oneCell')=true) ∧
            K (({ σ with aa:=σ.aa.set id (.arr sz (rows.take off++bY len (z.map AV.lit)++rows.drop (off+len))) }:St).put o.dst (.lit (.tuple #[])))
        | _=>False
      | _,_=>False
    | _,_=>False
  | .convert s d x =>
    match P.underlying d,ev σ x with
    | some (.int k),.lit (.int _ n)=>(P.underlying s).isSome=true∧K (σ.put o.dst (.lit (.int k (k.wrap n))))
    | _,_=>False
  | _=>False
end Go.Am
namespace Go.Am
variable {P:Program}
def wK (o:Oper) (σ:St) (γ:Cx) (a:Act) (K:St→Prop) (r:Result Next):Prop :=
  ∃ n x w' σ' aF,r=.ok n w'∧(n=.value x∨(n=.skip∧x=Go.undef))∧K σ'∧bq σ' aF∧Fr σ.aa γ σ'.aa aF∧aF.w=w'∧aF.tmps=(a.put o.dst x).tmps
theorem ay.lit {os:List Ob} {w:World} {Z:Nat→Prop} {blk:fQ} (v:Value):ay os w Z blk (.lit v) v:=.bW _ _ (.lit v)
theorem ay.cM {os:List Ob} {w:World} {Z:Nat→Prop} {blk:fQ} {v cv:Value} (h:ay os w Z blk (.lit v) cv):cv=v:=by
  cases h with
  | bW _ _ h=>cases h;rfl
theorem ay.wF {os:List Ob} {w:World} {Z:Nat→Prop} {blk:fQ} {sz:Nat} {rows:List (List AV)} {cv:Value} (h:ay os w Z blk (.tree sz rows) cv):gF w Z (.tree sz rows) cv:=by
  cases h with
  | bW _ _ h=>exact h
theorem ay.dS {os:List Ob} {w:World} {Z:Nat→Prop} {blk:fQ} (v:Value):ay os w Z blk (dS v) v:=by
  unfold Am.dS
  split
  · rename_i cs
    refine .agg _ _ (by simp) (fun j x hx=>?_)
    simp only[List.getElem?_map,Array.getElem?_toList] at hx
    cases hj:cs[j]? with
    | none=>simp[hj] at hx
    | some y =>
      simp[hj] at hx
      subst hx
      simp[hj]
      exact .lit y
  · exact .lit v
theorem sG {σ:St} {γ:Cx} (h:bq σ γ) {a:Act} (ha:γ.tmps=a.tmps) (x:Operand):ay σ.aa γ.w γ.Z γ.blk (ev σ x) (a.eval x):=by
  cases x with
  | tmp t=>have:=h.aw t;rw[ha] at this;exact this
  | const v=>exact .dS v
  | global g=>exact .undef _
  | func f=>exact .fn f [] #[] rfl (fun j x hx=>by simp at hx)
theorem C0 {os:List Ob} {w:World} {Z:Nat→Prop} {blk:fQ} {v:AV} {cv:Value} (h:ay os w Z blk v cv) (hs:cf v=true):cv.oneCell'=true:=by
  cases h with
  | undef cv=>simp[cf] at hs
  | bW v cv h=>cases h<;>first|rfl|(simpa [cf] using hs)
  | b7=>rfl
  | kh id sz off len cv h h1=>exact h1
  | lU id r c cv h h1=>exact h1
  | ref=>rfl
  | lE=>rfl
  | lV=>rfl
  | mu=>rfl
  | mY=>rfl
  | agg=>simp[cf] at hs
  | bG=>simp[cf] at hs
  | fn=>rfl
  | gJ=>rfl
  | gk=>rfl
  | pz id cv h h1=>exact h1
theorem qa {σ:St} {γ:Cx} (h:bq σ γ) {a:Act} (ha:γ.tmps=a.tmps) {dst:Option Tmp} (hd:∀ d,dst=some d→d<a.tmps.size) {v:AV} {cv:Value}
    (hv:ay σ.aa γ.w γ.Z γ.blk v cv):bq (σ.put dst v) { γ with tmps:=(a.put dst cv).tmps }:=by
  cases dst with
  | none =>
    have:({ γ with tmps:=(a.put none cv).tmps }:Cx)=γ:=by cases γ;simp_all [Act.put]
    rw[this]
    exact h
  | some d =>
    have:=h.put d (by rw[ha];exact hd d rfl) hv
    rw[ha] at this
    exact this
theorem qb (σ:St) (dst:Option Tmp) (v:AV):(σ.put dst v).aa=σ.aa:=by cases dst<;>rfl
theorem dg {o:Oper} {σ:St} {γ:Cx} {a:Act} {K:St→Prop} (h:bq σ γ) (ha:γ.tmps=a.tmps) (hd:∀ d,o.dst=some d→d<a.tmps.size) {v:AV} {cv:Value}
    (hv:ay σ.aa γ.w γ.Z γ.blk v cv) (hK:K (σ.put o.dst v)) {r:Result Next} (hr:r=.ok (.value cv) γ.w):wK o σ γ a K r :=
  ⟨.value cv,cv,γ.w,σ.put o.dst v,{ γ with tmps:=(a.put o.dst cv).tmps },hr,.inl rfl,hK,qa h ha hd hv,by rw[qb];exact (Fr.refl _ _).put _,rfl,rfl⟩
theorem yf {o:Oper} {σ σ1:St} {γ γ1:Cx} {a:Act} {K:St→Prop} (hf:Fr σ.aa γ σ1.aa γ1) (h:bq σ1 γ1) (ha:γ1.tmps=a.tmps) (hd:∀ d,o.dst=some d→d<a.tmps.size) {v:AV} {cv:Value}
    (hv:ay σ1.aa γ1.w γ1.Z γ1.blk v cv) (hK:K (σ1.put o.dst v)) {r:Result Next} (hr:r=.ok (.value cv) γ1.w):wK o σ γ a K r :=
  ⟨.value cv,cv,γ1.w,σ1.put o.dst v,{ γ1 with tmps:=(a.put o.dst cv).tmps },hr,.inl rfl,hK,qa h ha hd hv,by rw[qb];exact hf.put _,rfl,rfl⟩
theorem Gp {o:Oper} {σ σ1:St} {γ γ1:Cx} {a:Act} {K:St→Prop} (hf:Fr σ.aa γ σ1.aa γ1) (h:bq σ1 γ1) (ha:γ1.tmps=a.tmps) (hd:∀ d,o.dst=some d→d<a.tmps.size)
    (hK:K (σ1.put o.dst .undef)) {r:Result Next} (hr:r=.ok .skip γ1.w):wK o σ γ a K r :=
  ⟨.skip,Go.undef,γ1.w,σ1.put o.dst .undef,{ γ1 with tmps:=(a.put o.dst Go.undef).tmps },hr,.inr ⟨rfl,rfl⟩,hK,qa h ha hd (.undef _),by rw[qb];exact hf.put _,rfl,rfl⟩
theorem u9 {k:IntKind} {n:Int} (h:k.min≤n∧n≤k.max):k.wrap n=n:=by
  cases k<;>simp[IntKind.min,IntKind.max,IntKind.signed,IntKind.bits] at h<;>simp[IntKind.wrap,IntKind.signed,IntKind.bits]<;>omega
theorem Yo {op:BinOp} {k:IntKind} {x y:Int} {K:Value→Prop} (h:fP op k x y K) (t:TypeId) (w:World) :
    ∃ v,(binOp op t (.int k x) (.int k y)).run P w=.ok v w∧K v:=by
  cases op<;>simp only[fP] at h
  case add=>exact⟨_,by simp[binOp,Op.intArith,u9 h.1],h.2⟩
  case sub=>exact⟨_,by simp[binOp,Op.intArith,u9 h.1],h.2⟩
  case mul=>exact⟨_,by simp[binOp,Op.intArith,u9 h.1],h.2⟩
  case quo =>
    refine⟨_,?_,h.2⟩
    obtain ⟨h0,hb,hm⟩:=h.1
    have hq:x.tdiv y=x / y:=Int.tdiv_eq_ediv_of_nonneg h0
    have hle:x / y≤x:=Int.ediv_le_self _ h0
    have lW:0≤x / y:=Int.ediv_nonneg h0 (by omega)
    have hw:k.wrap (x / y)=x / y:=u9 ⟨by cases k<;>simp[IntKind.min,IntKind.signed,IntKind.bits]<;>omega,by omega⟩
    have dm:¬ y=0:=by omega
    simp[binOp,Op.intDiv,dm,hq,hw]
  case rem=>exact⟨_,by simp[binOp,Op.intDiv,h.1],h.2⟩
  case and =>
    exact⟨_,by simp[binOp,Op.intBits,yr],h⟩
  case shr =>
    refine⟨_,?_,h.2⟩
    obtain ⟨h0,h1⟩:=h.1
    have:¬ y<0:=by omega
    have e:(2:Int) ^ y.toNat=((2 ^ y.toNat:Nat):Int):=by simp
    simp[binOp,Op.shift,this,Nat.min_eq_left h1]
    exact Int.fdiv_eq_ediv_of_nonneg _ (by rw[e];exact Int.natCast_nonneg _)
  case eql=>exact⟨_,by simp[binOp,Op.intCmp],h⟩
  case neq=>exact⟨_,by simp[binOp,Op.intCmp],h⟩
  case lss=>exact⟨_,by simp[binOp,Op.intCmp],h⟩
  case leq=>exact⟨_,by simp[binOp,Op.intCmp],h⟩
  case gtr=>exact⟨_,by simp[binOp,Op.intCmp],h⟩
  case geq=>exact⟨_,by simp[binOp,Op.intCmp],h⟩
theorem Md:∀ {cs:List AV} {as:List Int},nH cs=some as→cs=as.map fun a=>.lit (.int .i64 a)
  | [],as,h=>by simp[nH] at h;subst h;rfl
  | c::cs,as,h=>by
    unfold nH at h
    split at h
    · rename_i e;simp at e
    · rename_i a r e
      simp only[List.cons.injEq] at e
      obtain ⟨rfl,rfl⟩:=e
      simp only[Option.map_eq_some_iff] at h
      obtain ⟨as',h,rfl⟩:=h
      rw[Md h];rfl
    · simp at h
theorem Gd {os:List Ob} {w:World} {Z:Nat→Prop} {blk:fQ} {cs:List AV} {as:List Int} {cv:Value} (h:ay os w Z blk (.agg cs) cv) (hi:nH cs=some as):cv=.agg (as.map (Value.int .i64)).toArray:=by
  have:=Md hi
  subst this
  cases h with
  | bW _ _ h=>cases h
  | agg _ aZ hs h =>
    congr 1
    refine Array.ext (by simpa using hs) (fun j h1 h2=>?_)
    have hj:j<as.length:=by simpa using h2
    have:=(h j (.lit (.int .i64 as[j])) (by simp[hj])).cM
    rw[eY,Array.getElem?_eq_getElem h1] at this
    simpa using this
end Go.Am
namespace Go.Am
variable {P:Program}
theorem Gt {t:TypeId} (h:(ty P t).kind≠99) (w:World):(isAgg t).run P w=.ok (ty P t).isAgg w:=by
  obtain ⟨i,d,hi,hd,_⟩:=rA h
  simp only[isAgg,Sem.run_bind,run_underlying hd,Result.andThen_ok]
  have:ty P t=ty P t:=rfl
  cases d<;>simp[ty,hi,hd,Ty.isAgg]
theorem run_sizeOf {t:TypeId} (h:(ty P t).kind≠99) (w:World):(sizeOf t).run P w=.ok (ty P t).size w:=by
  obtain ⟨i,d,hi,hd,hs,_⟩:=rA h
  simp[sizeOf,typeInfo,hi,hs]
theorem LX {t:TypeId} {z:List Value} (h:(ty P t).kind≠99) (hz:(ty P t).zero=some z) (w:World) :∃v,(zeroValue t).run P w=.ok v w∧v.cells=z.toArray:=by
  obtain ⟨i,d,hi,hd,_,_,h3⟩:=rA h
  rw[h3] at hz
  cases hv:i.zero with
  | none=>simp[hv] at hz
  | some v =>
    simp[hv] at hz
    refine⟨v,by simp[zeroValue,typeInfo,hi,hv],?_⟩
    rw[← hz]
theorem CL {σ:St} {γ:Cx} (h:bq σ γ) {id r c:Nat} {cv:Value} {row:List AV} (hv:ay σ.aa γ.w γ.Z γ.blk (.ptr id r c) cv) (a7:rowOf σ id r=some row) :
    ∃ b base cap cur t o,cv=.pointer (some ⟨b,base+c,none⟩)∧γ.blk id=some (b,o,cap)∧γ.w.heap[b]?=some (.cells cur t (0,0))∧base+row.length≤cur.size ∧
      (∀ j v,row[j]?=some v→ay σ.aa γ.w γ.Z γ.blk v (cur.getD (base+j) Go.undef))∧Live σ.aa id ∧
      (∀ wT nR,wT.length=row.length→nR.size=cur.size→(∀ j v,wT[j]?=some v→ay σ.aa γ.w γ.Z γ.blk v (nR.getD (base+j) Go.undef))→(∀ k,(k<base∨base+row.length≤k)→nR.getD k Go.undef=cur.getD k Go.undef) →
        ∃ ob ob',σ.aa[id]?=some ob∧ob≠.gone∧ob.dW ob'∧(mU σ id r wT) = { σ with aa:=σ.aa.set id ob' }∧rn σ.aa γ.w γ.Z γ.blk o cap nR ob'):=by
  unfold rowOf at a7
  cases ho:σ.aa[id]? with
  | none=>simp[ho] at a7
  | some ob =>
    have aT:=h.ez id ob ho
    cases ob with
    | gone=>simp[ho] at a7
    | mp ag L=>simp[ho] at a7
    | var cells =>
      simp only[ho] at a7
      split at a7
      · rename_i Ao
        subst Ao
        simp at a7
        subst a7
        obtain ⟨b,cap,cur,t,h1,h2,h3,h4⟩:=aT
        have bd:cv=.pointer (some ⟨b,c,none⟩):=by
          cases hv with
          | bW _ _ h=>cases h
          | lU _ _ _ _ h=>rw[ho] at h;simp at h
          | mu _ _ b' cap' cells' h hb=>rw[h1] at hb;simp at hb;simp[hb.1]
          | mY _ _ _ sz b' o' cap' rows h hb=>rw[ho] at h;simp at h
        refine⟨b,0,cap,cur,t,0,by simpa using bd,h1,h2,by omega,fun j v hj=>by simpa using h4 j v hj,⟨_,ho,by simp⟩,?_⟩
        intro wT nR hl hs k9 _
        refine⟨.var cells,.var wT,rfl,by simp,by simp[Ob.dW,hl],by simp[mU,ho],rfl,by omega,fun c v hc=>by simpa using k9 c v hc⟩
      · simp at a7
    | arr sz rows =>
      simp only[ho] at a7
      obtain ⟨a9,cF,aT⟩:=aT
      have afz:row.length=sz:=cF row (gB a7)
      have YM:r<rows.length:=(aQ.1 a7).1
      rcases aT with ⟨_,he⟩ | ⟨b,o,cap,cur,t,h1,h2,h3,h4,h5,h6⟩
      · subst he;simp at a7
      · have bd:cv=.pointer (some ⟨b,o+(r * sz+c),none⟩):=by
          cases hv with
          | bW _ _ h=>cases h
          | lU _ _ _ _ h=>rw[ho] at h;simp at h
          | mu _ _ b' cap' cells' h hb=>rw[ho] at h;simp at h
          | mY _ _ _ cO b' o' cap' fO h hb=>rw[ho] at h;simp at h;rw[h1] at hb;simp at hb;simp[hb.1,hb.2.1,h.1]
        have hmul:r * sz+sz≤cap * sz:=by
          have:(r+1) * sz≤cap * sz:=mo _ (by omega)
          rw[fj] at this;omega
        refine⟨b,o+r * sz,cap,cur,t,o,by rw[bd];simp[uN],h1,h2,by omega,?_,⟨_,ho,by simp⟩,?_⟩
        · intro j v hj
          have:=h6 r j v (by simp[cellAt,a7,hj])
          simpa [uN] using this
        · intro wT nR hl hs k9 Ap
          refine⟨.arr sz rows,.arr sz (rows.set r wT),rfl,by simp,by simp[Ob.dW],by simp[mU,ho],a9,?_,by omega,by simp[h4],h5,?_⟩
          · intro x hx
            rcases List.mem_or_eq_of_mem_set hx with hx | rfl
            · exact cF x hx
            · omega
          · intro r' c' v hc
            by_cases cd:r=r'
            · subst cd
              simp only[cellAt,b6,if_true,YM] at hc
              simp at hc
              have:=k9 c' v hc
              simpa [uN] using this
            · simp only[cellAt,b6,if_neg cd] at hc
              have hold:=h6 r' c' v hc
              have ka:c'<sz:=by
                simp only[v3] at hc
                obtain ⟨x,hx,rB⟩:=hc
                have:=cF x (gB hx)
                have:=(aQ.1 rB).1
                omega
              rw[Ap _ ?_]
              · exact hold
              · rcases Nat.lt_or_gt_of_ne cd with bw | wU
                · right
                  have:(r+1) * sz≤r' * sz:=mo _ (by omega)
                  rw[fj] at this;omega
                · left
                  have:(r'+1) * sz≤r * sz:=mo _ (by omega)
                  rw[fj] at this;omega
theorem Addr.qm (b o n:Nat):(⟨b,o,none⟩:Addr).add n=⟨b,o+n,none⟩:=by
  unfold Go.Addr.add;split<;>simp_all
theorem yb {w:World} {b j:Nat} {cur:Array Value} {t:TypeId} {fr:Nat × Nat} (h:w.heap[b]?=some (.cells cur t fr)) (hj:j<cur.size):w.cell? ⟨b,j,none⟩=some (cur.getD j Go.undef):=by
  simp[World.cell?,h,hj,eY]
theorem C6 {w:World} {t:TypeId} (hk:(ty P t).kind≠99) (b o:Nat) (f:Nat→Value)
    (hc:∀ j,j<(if (ty P t).isAgg then (ty P t).size else 1)→w.cell? ⟨b,o+j,none⟩=some (f j)) :
    (loadVar t ⟨b,o,none⟩).run P w=.ok (if (ty P t).isAgg then .agg ((aN (ty P t).size).map f).toArray else f 0) w:=by
  simp only[loadVar,Sem.run_bind,Gt hk,Result.andThen_ok]
  by_cases ha:(ty P t).isAgg=true
  · simp only[ha,if_true,Sem.run_bind,run_sizeOf hk,Result.andThen_ok]
    rw[run_loadCells w ⟨b,o,none⟩ _ f (fun j hj=>by rw[Addr.qm];exact hc j (by simpa [ha] using hj))]
    rfl
  · have nQ:=hc 0 (by simp[ha])
    simp only[jr] at nQ
    simp[ha,nQ]
end Go.Am
namespace Go.Am
variable {P:Program}
theorem Gm (cs:List AV):∀ (row:List AV) (c:Nat),(setCells row c cs).length=row.length:=by
  induction cs with
  | nil=>intro row c;rfl
  | cons v vs ih=>intro row c;simp[setCells,ih]
theorem L8 (cs:List AV):∀ (row:List AV) (c:Nat),c+cs.length≤row.length→∀ j,(setCells row c cs)[j]?=if c≤j∧j<c+cs.length then cs[j - c]? else row[j]?:=by
  induction cs with
  | nil=>intro row c _ j;simp[setCells];intro h1 h2;omega
  | cons v vs ih =>
    intro row c hl j
    simp only[dH] at hl
    simp only[setCells,dH]
    rw[ih (row.set c v) (c+1) (by simp;omega) j]
    by_cases h1:c+1≤j∧j<c+1+vs.length
    · rw[if_pos h1,if_pos (by omega)]
      have:j - c=(j - (c+1))+1:=by omega
      rw[this];simp
    · rw[if_neg h1]
      by_cases h2:j=c
      · subst h2
        rw[if_pos (by omega)]
        simp[show j<row.length by omega]
      · rw[if_neg (by omega),List.getElem?_set_ne (Ne.symm h2)]
theorem Gi {os:List Ob} {w:World} {Z:Nat→Prop} {blk:fQ} {v:AV} {cv:Value} (h:ay os w Z blk v cv) (hs:(cellsOf v).all cf=true) :
    cv.cells.size=(cellsOf v).length∧(∀ j x,(cellsOf v)[j]?=some x→ay os w Z blk x (cv.cells.getD j Go.undef))∧∀ c∈cv.cells,c.oneCell'=true:=by
  by_cases jV :∃cs,v=.agg cs
  · obtain ⟨cs,rfl⟩:=jV
    simp only[cellsOf] at hs ⊢
    cases h with
    | bW _ _ h=>cases h
    | agg _ aZ a9 k9 =>
      refine⟨a9,k9,?_⟩
      intro c hc
      simp only[Value.cells] at hc
      obtain ⟨j,hj,rfl⟩:=Array.mem_iff_getElem.1 hc
      have hx:cs[j]?=some cs[j]:=by simp[← a9,hj]
      have:=k9 j _ hx
      have hg:aZ.getD j Go.undef=aZ[j]:=by simp[eY,hj]
      rw[hg] at this
      exact C0 this (by rw[List.all_eq_true] at hs;exact hs _ (gB hx))
  · have oN:cellsOf v=[v]:=by
      unfold cellsOf;split
      · exact absurd ⟨_,rfl⟩ jV
      · rfl
    rw[oN] at hs ⊢
    simp at hs
    have ho:=C0 h hs
    have aR:cv.cells = #[cv]:=by cases cv<;>first|rfl|simp[Value.oneCell'] at ho
    rw[aR]
    refine⟨rfl,?_,by simp[ho]⟩
    intro j x hx
    cases j with
    | zero=>simp at hx;subst hx;simpa using h
    | succ j=>simp at hx
section
variable {o:Oper} {σ:St} {γ:Cx} {a:Act} {K:St→Prop}
theorem F3 (hs:bq σ γ) {t:TypeId} (hk:(ty P t).kind≠99) {id r c:Nat} {cv:Value} (hv:ay σ.aa γ.w γ.Z γ.blk (.ptr id r c) cv)
    {row:List AV} (a7:rowOf σ id r=some row) {K:AV→Prop} (h:lA (ty P t) row c K) :
    ∃ v nO,(Instr.loadAt t cv).run P γ.w=.ok nO γ.w∧ay σ.aa γ.w γ.Z γ.blk v nO∧K v:=by
  obtain ⟨b,base,cap,cur,tt,o,rfl,hb,jJ,a9,k9,_,_⟩:=CL hs hv a7
  unfold lA at h
  simp only[Instr.loadAt,Instr.sureAddr,Sem.run_bind,Sem.run_pure,Result.andThen_ok]
  by_cases jV:(ty P t).isAgg=true
  · rw[if_pos jV] at h
    refine⟨_,_,C6 hk b (base+c) (fun j=>cur.getD (base+c+j) Go.undef) ?_,?_,h.2⟩
    · intro j hj
      rw[if_pos jV] at hj
      exact yb jJ (by omega)
    · rw[if_pos jV]
      refine .agg _ _ (by simp;omega) (fun j x hx=>?_)
      have hj:j<(ty P t).size:=by have:=(aQ.1 hx).1;simp at this;omega
      rw[sn,if_pos hj,nr] at hx
      have:=k9 _ _ hx
      simp[eY,hj]
      simpa [uN,eY] using this
  · rw[if_neg jV] at h
    cases hc:row[c]? with
    | none=>simp[hc] at h
    | some v =>
      simp only[hc] at h
      have cE:=(aQ.1 hc).1
      refine⟨v,_,C6 hk b (base+c) (fun j=>cur.getD (base+c+j) Go.undef) ?_,?_,h⟩
      · intro j hj
        rw[if_neg jV] at hj
        exact yb jJ (by omega)
      · rw[if_neg jV]
        exact k9 _ _ hc
theorem Ym (_hs:bq σ γ) {t:TypeId} (hk:(ty P t).kind≠99) {cells:List AV} {cv:Value} (hv:ay σ.aa γ.w γ.Z γ.blk (.b7 cells) cv)
    {K:AV→Prop} (h:lA (ty P t) cells 0 K) :
    ∃ v nO,(Instr.loadAt t cv).run P γ.w=.ok nO γ.w∧ay σ.aa γ.w γ.Z γ.blk v nO∧K v:=by
  cases hv with
  | bW _ _ h=>cases h
  | b7 _ b o f hz hc ht =>
  unfold lA at h
  simp only[Instr.loadAt,Instr.sureAddr,Sem.run_bind,Sem.run_pure,Result.andThen_ok]
  by_cases jV:(ty P t).isAgg=true
  · rw[if_pos jV] at h
    have hlen:(ty P t).size≤cells.length:=by omega
    refine⟨_,_,C6 hk b o f ?_,?_,h.2⟩
    · intro j hj
      rw[if_pos jV] at hj
      exact hc j cells[j] (by simp)
    · rw[if_pos jV]
      refine .agg _ _ (by simp;omega) (fun j x hx=>?_)
      have hj:j<(ty P t).size:=by have:=(aQ.1 hx).1;simp at this;omega
      rw[sn,if_pos hj,nr] at hx
      simp at hx
      simp[eY,hj]
      exact .bW _ _ (ht j x hx)
  · rw[if_neg jV] at h
    cases aR:cells[0]? with
    | none=>simp[aR] at h
    | some v =>
      simp only[aR] at h
      refine⟨v,_,C6 hk b o f ?_,?_,h⟩
      · intro j hj
        rw[if_neg jV] at hj
        have:j=0:=by omega
        subst this
        exact hc 0 v aR
      · rw[if_neg jV]
        exact .bW _ _ (ht 0 v aR)
theorem Ak (cur:Array Value) (p:Nat) (vs:List Value) (hp:p+vs.length≤cur.size) (k:Nat) :
    ((cur.toList.take p++vs++cur.toList.drop (p+vs.length)).toArray).getD k Go.undef=if p≤k∧k<p+vs.length then vs.getD (k - p) Go.undef else cur.getD k Go.undef:=by
  simp only[eY,List.getElem?_toArray,aA]
  by_cases h1:k<p
  · rw[if_neg (by omega),List.append_assoc,cn (by simp;omega),sn,if_pos h1]
    simp
  · by_cases h2:k<p+vs.length
    · rw[if_pos (by omega),cn (by simp;omega),eK (by simp;omega)]
      simp;congr 3;omega
    · rw[if_neg (by omega),eK (by simp;omega)]
      simp;congr 3;omega
theorem setRow_size (w:World) (g:Nat) (cs:Array Value):(w.setRow g cs).heap.size=w.heap.size:=by simp[World.setRow]
theorem Yn (hs:bq σ γ) {t:TypeId} (hk:(ty P t).kind≠99) {id r c:Nat} {cv xv:Value} (hv:ay σ.aa γ.w γ.Z γ.blk (.ptr id r c) cv)
    {row:List AV} (a7:rowOf σ id r=some row) {v:AV} (hx:ay σ.aa γ.w γ.Z γ.blk v xv)
    (h:(cellsOf v).length=(ty P t).size∧c+(ty P t).size≤row.length∧(cellsOf v).all cf=true) :
    ∃ w',(Instr.storeAt t cv xv).run P γ.w=.ok () w'∧bq (mU σ id r (setCells row c (cellsOf v))) { γ with w:=w' }∧Fr σ.aa γ (mU σ id r (setCells row c (cellsOf v))).aa { γ with w:=w' }:=by
  obtain ⟨b,base,cap,cur,tt,o,rfl,hb,jJ,a9,k9,oJ,yu⟩:=CL hs hv a7
  obtain ⟨h1,h2,h3⟩:=h
  obtain ⟨e1,e2,e3⟩:=Gi hx h3
  have hlen:xv.cells.toList.length=(ty P t).size:=by simp[e1,h1]
  have eQ:(Instr.storeAt t (.pointer (some ⟨b,base+c,none⟩)) xv).run P γ.w=.ok () (γ.w.setRow b (cur.toList.take (base+c)++xv.cells.toList++cur.toList.drop (base+c+xv.cells.toList.length)).toArray):=by
    have gm:=run_storeCells_at P b (base+c) tt xv.cells.toList 0 cur γ.w jJ (by rw[hlen];omega) (fun x hx=>e3 x (by simpa using hx))
    simp only[jr] at gm
    simp only[Instr.storeAt,Instr.sureAddr,Sem.run_bind,Sem.run_pure,Result.andThen_ok,storeVar,run_sizeOf hk]
    have:¬ (xv.cells.size≠(ty P t).size):=by rw[e1,h1];simp
    rw[if_neg this]
    simpa using gm
  obtain ⟨ob,ob',g1,g2,g3,g4,g5⟩:=yu (setCells row c (cellsOf v)) (cur.toList.take (base+c)++xv.cells.toList++cur.toList.drop (base+c+xv.cells.toList.length)).toArray
    (Gm _ _ _) (by simp[hlen];omega) (by
      intro j x hj
      rw[L8 _ _ _ (by rw[h1];exact h2)] at hj
      rw[Ak cur (base+c) xv.cells.toList (by rw[hlen];omega),hlen]
      by_cases ei:c≤j∧j<c+(cellsOf v).length
      · rw[if_pos ei] at hj
        rw[if_pos (by omega)]
        have:=e2 _ _ hj
        have e:base+j - (base+c)=j - c:=by omega
        rw[e]
        simpa [aA,eY] using this
      · rw[if_neg ei] at hj
        rw[if_neg (by omega)]
        exact k9 j x hj) (by
      intro k aH
      rw[Ak cur (base+c) xv.cells.toList (by rw[hlen];omega),hlen]
      rw[if_neg (by omega)])
  refine⟨_,eQ,?_,?_⟩
  · rw[g4]
    exact hs.write g1 g2 g3 hb (setRow_heap γ.w b cur _ tt _ jJ) (fun k hk=>setRow_other γ.w b k _ hk) (setRow_size _ _ _) g5
  · rw[g4]
    exact Fr.write ob' g1 g2 g3 hb (fun k hk=>setRow_other γ.w b k _ hk) (setRow_size _ _ _) rfl rfl rfl
end
end Go.Am
namespace Go.Am
variable {P:Program}
theorem bq.wJ {σ:St} {γ:Cx} (h:bq σ γ) {sz:Nat} (a9:0<sz) :
    bq { σ with aa:=σ.aa++[.arr sz []] } { γ with blk:=cS γ.blk σ.aa.length none }:=by
  have hR:∀ v cv,ay σ.aa γ.w γ.Z γ.blk v cv→ay (σ.aa++[.arr sz []]) γ.w γ.Z (cS γ.blk σ.aa.length none) v cv:=fun v cv hv =>
    hv.mono (fun b hb=>⟨hb,rfl⟩) (fun i o ho=>by
      have hi:i<σ.aa.length:=(aQ.1 ho).1
      have cR:(σ.aa++[.arr sz []])[i]?=some o:=by rw[cn hi];exact ho
      by_cases cQ:o=.gone
      · subst cQ;exact .inl cR
      · exact .inr ⟨by simp[cS,lz hi],o,cR,Ob.jG cQ⟩)
  have cz:∀ i b,cS γ.blk σ.aa.length none i=some b→Live (σ.aa++[.arr sz []]) i→Live σ.aa i∧γ.blk i=some b:=by
    rintro i b hb ⟨o,ho,cQ⟩
    simp only[cS] at hb
    split at hb
    · simp at hb
    · rename_i dm
      have hi:i<σ.aa.length:=by have:=(aQ.1 ho).1;simp at this;omega
      rw[cn hi] at ho
      exact⟨⟨o,ho,cQ⟩,hb⟩
  refine⟨fun k=>hR _ _ (h.aw k),?_,?_,?_,h.gG⟩
  · intro i o ho
    rcases eF i σ.aa.length with hi | hi
    · rw[cn hi] at ho
      exact (h.ez i o ho).mono hR (by simp[cS,lz hi]) (fun _ _ _ _=>rfl)
    · have hi':i=σ.aa.length:=by have:=(aQ.1 ho).1;simp at this;omega
      subst hi'
      simp at ho
      subst ho
      exact⟨a9,by simp,.inl ⟨by simp[cS],rfl⟩⟩
  · intro i j b o c o' c' hi hj fL gl
    obtain ⟨yv,lY⟩:=cz i _ fL hi
    obtain ⟨wV,C7⟩:=cz j _ gl hj
    exact h.inj i j b o c o' c' yv wV lY C7
  · rintro b ⟨i,o,c,hi,hb⟩
    obtain ⟨yv,lY⟩:=cz i _ hb hi
    exact h.nz b ⟨i,o,c,yv,lY⟩
theorem Fr.wJ (os:List Ob) (γ:Cx) (sz:Nat):Fr os γ (os++[.arr sz []]) { γ with blk:=cS γ.blk os.length none } where
  lS:=rfl
  tape:=rfl
  output:=rfl
  size:=aG _
  ax:=fun _ _ _=>rfl
  z0:=fun _ h=>h
  z1:=fun _ h=>.inl h
  own:=by
    rintro b ⟨i,o,c,⟨x,hx,dy⟩,hb⟩
    simp only[cS] at hb
    split at hb
    · simp at hb
    · have hi:i<os.length:=by have:=(aQ.1 hx).1;simp at this;omega
      rw[cn hi] at hx
      exact .inl ⟨i,o,c,⟨x,hx,dy⟩,hb⟩
  len:=by simp
  kA:=by
    rintro i hi ⟨x,hx,dy⟩
    have hx0:=hx
    rw[cn hi] at hx
    exact⟨by simp[cS,lz hi],x,x,hx,hx0,Ob.jG dy⟩
theorem bq.Aj {σ:St} {γ:Cx} (h:bq σ γ) {id:Nat} {ob ob':Ob} (ho:σ.aa[id]?=some ob) (hg:ob≠.gone) {b o cap o' cap':Nat} (hb:γ.blk id=some (b,o,cap))
    {w':World} {cur:Array Value} {t:TypeId} (hw:w'.heap[b]?=some (.cells cur t (0,0))) (m0:∀ k,k≠b→w'.heap[k]?=γ.w.heap[k]?) (a9:w'.heap.size=γ.w.heap.size)
    (aT:rn σ.aa γ.w γ.Z γ.blk o' cap' cur ob') :
    bq { σ with aa:=σ.aa.set id .gone++[ob'] } { γ with w:=w',blk:=cS γ.blk σ.aa.length (some (b,o',cap')) }:=by
  have cV:id<σ.aa.length:=(aQ.1 ho).1
  have oJ:Live σ.aa id:=⟨ob,ho,hg⟩
  have hR:∀ v cv,ay σ.aa γ.w γ.Z γ.blk v cv→ay (σ.aa.set id .gone++[ob']) w' γ.Z (cS γ.blk σ.aa.length (some (b,o',cap'))) v cv:=fun v cv hv =>
    hv.mono (fun z hz=>⟨hz,m0 z (fun e=>h.nz b ⟨id,o,cap,oJ,hb⟩ (e ▸ hz))⟩) (fun i x hx=>by
      have hi:i<σ.aa.length:=(aQ.1 hx).1
      rw[cn (by simpa using hi),b6]
      by_cases lG:id=i
      · left;simp[lG,hi]
      · rw[if_neg lG]
        by_cases cQ:x=.gone
        · subst cQ;exact .inl hx
        · exact .inr ⟨by simp[cS,lz hi],x,hx,Ob.jG cQ⟩)
  have cz:∀ i,Live (σ.aa.set id .gone++[ob']) i→i=σ.aa.length∨(i<σ.aa.length∧i≠id∧Live σ.aa i):=by
    rintro i ⟨x,hx,dy⟩
    rcases eF i σ.aa.length with hi | hi
    · right
      rw[cn (by simpa using hi),b6] at hx
      split at hx
      · simp at hx;exact absurd hx.symm dy
      · rename_i dm
        exact⟨hi,Ne.symm dm,x,hx,dy⟩
    · left
      have:=(aQ.1 hx).1
      simp at this;omega
  refine⟨fun k=>hR _ _ (h.aw k),?_,?_,?_,fun z hz=>by rw[a9];exact h.gG z hz⟩
  · intro i x hx
    rcases eF i σ.aa.length with hi | hi
    · rw[cn (by simpa using hi),b6] at hx
      split at hx
      · simp at hx;subst hx;trivial
      · rename_i dm
        by_cases cQ:x=.gone
        · subst cQ;trivial
        · refine (h.ez i x hx).mono hR (by simp[cS,lz hi]) (fun z y c hz=>m0 z (fun e=>dm ?_))
          subst e
          exact h.inj id i z o cap y c oJ ⟨x,hx,cQ⟩ hb hz
    · have hi':i=σ.aa.length:=by have:=(aQ.1 hx).1;simp at this;omega
      subst hi'
      rw[eK (by simp)] at hx
      simp at hx
      subst hx
      exact aT.GA (b:=b) (cap:=cap') hR (by simp[cS]) hw
  · intro i j z y c y' c' hi hj fL gl
    simp only[cS] at fL gl
    rcases cz i hi with rfl | ⟨jc,Me,hi'⟩<;>rcases cz j hj with rfl | ⟨k8,YN,c9⟩
    · rfl
    · rw[if_pos rfl] at fL
      rw[if_neg (lz k8)] at gl
      simp at fL
      rw[← fL.1] at gl
      exact absurd (h.inj j id b y' c' o cap c9 oJ gl hb) YN
    · rw[if_pos rfl] at gl
      rw[if_neg (lz jc)] at fL
      simp at gl
      rw[← gl.1] at fL
      exact absurd (h.inj i id b y c o cap hi' oJ fL hb) Me
    · rw[if_neg (lz jc)] at fL
      rw[if_neg (lz k8)] at gl
      exact h.inj i j z y c y' c' hi' c9 fL gl
  · rintro z ⟨i,y,c,hi,hz⟩ mA
    simp only[cS] at hz
    rcases cz i hi with rfl | ⟨jc,Me,hi'⟩
    · rw[if_pos rfl] at hz
      simp at hz
      rw[← hz.1] at mA
      exact h.nz b ⟨id,o,cap,oJ,hb⟩ mA
    · rw[if_neg (lz jc)] at hz
      exact h.nz z ⟨i,y,c,hi',hz⟩ mA
theorem Fr.Aj {σ:St} {γ:Cx} {id:Nat} {ob:Ob} (ob':Ob) (ho:σ.aa[id]?=some ob) (hg:ob≠.gone) {b o cap o' cap':Nat} (hb:γ.blk id=some (b,o,cap))
    {w':World} (m0:∀ k,k≠b→w'.heap[k]?=γ.w.heap[k]?) (a9:w'.heap.size=γ.w.heap.size) (h1:w'.os=γ.w.os) (h2:w'.tape=γ.w.tape) (h3:w'.output=γ.w.output) :
    Fr σ.aa γ (σ.aa.set id .gone++[ob']) { γ with w:=w',blk:=cS γ.blk σ.aa.length (some (b,o',cap')) } where
  lS:=h1
  tape:=h2
  output:=h3
  size:=by simp[a9]
  ax:=fun z _ u5=>m0 z (fun e=>u5 ⟨id,o,cap,⟨ob,ho,hg⟩,e ▸ hb⟩)
  z0:=fun _ h=>h
  z1:=fun _ h=>.inl h
  own:=by
    rintro z ⟨i,y,c,⟨x,hx,dy⟩,hz⟩
    simp only[cS] at hz
    split at hz
    · simp at hz
      left
      exact⟨id,o,cap,⟨ob,ho,hg⟩,by rw[hb,hz.1]⟩
    · have hi:i<σ.aa.length:=by have:=(aQ.1 hx).1;simp at this;omega
      rw[cn (by simpa using hi),b6] at hx
      split at hx
      · split at hx<;>simp at hx;exact absurd hx.symm dy
      · exact .inl ⟨i,y,c,⟨x,hx,dy⟩,hz⟩
  len:=by simp
  kA:=by
    rintro i hi ⟨x,hx,dy⟩
    have hx0:=hx
    rw[cn (by simpa using hi),b6] at hx
    split at hx
    · split at hx<;>simp at hx;exact absurd hx.symm dy
    · exact⟨by simp[cS,lz hi],x,x,hx,hx0,Ob.jG dy⟩
theorem L4 {σ:St} {γ:Cx} (h:bq σ γ) {x:AV} {cv:Value} (hv:ay σ.aa γ.w γ.Z γ.blk x cv) {sz:Nat} (a9:0<sz) {src:List (List AV)} (hs:mW σ x=some (sz,src)) :
    ∃ ad c,∃ g:Nat→Value,cv=.slice ad src.length c∧(∀ row∈src,row.length=sz)∧(0<src.length→∃ b o,ad=some ⟨b,o,none⟩∧∀ j,j<src.length * sz→γ.w.cell? ⟨b,o+j,none⟩=some (g j)) ∧
      ∀ r c v,cellAt src r c=some v→ay σ.aa γ.w γ.Z γ.blk v (g (r * sz+c)):=by
  cases x with
  | tree cO rows =>
    simp[mW] at hs
    obtain ⟨rfl,rfl⟩:=hs
    cases hv.wF with
    | nil _ cap a=>exact⟨a,cap,fun _=>Go.undef,rfl,by simp,by simp,by simp[cellAt]⟩
    | tree _ _ b o cap f hz hr An hc ht =>
      refine⟨_,cap,fun j=>f (j / cO) (j % cO),rfl,hr,fun hlen=>⟨b,o,rfl,?_⟩,?_⟩
      · intro j hj
        have h1:j / cO<rows.length:=Nat.div_lt_of_lt_mul (by rw[pZ];exact hj)
        have h2:j % cO<cO:=Nat.mod_lt _ a9
        have cF:(rows[j / cO]).length=cO:=hr _ (List.getElem_mem h1)
        have:=hc (j / cO) (j % cO) ((rows[j / cO])[j % cO]'(by omega)) (by simp[cellAt,h1,h2,cF])
        have e:j / cO * cO+j % cO=j:=by rw[pZ];exact Nat.div_add_mod j cO
        rw[e] at this
        exact this
      · intro r c v bd
        have cE:c<cO:=by
          simp only[cellAt,v3] at bd
          obtain ⟨y,hy,oM⟩:=bd
          have:=hr y (gB hy)
          have:=(aQ.1 oM).1
          omega
        have e1:(r * cO+c) / cO=r:=by rw[pZ,Nat.mul_add_div a9,Nat.div_eq_of_lt cE];rfl
        have e2:(r * cO+c) % cO=c:=by rw[pZ,Nat.mul_add_mod,Nat.mod_eq_of_lt cE]
        simp only[e1,e2]
        exact .bW _ _ (ht r c v bd)
  | ref id cO off len =>
    simp only[mW] at hs
    cases ho:σ.aa[id]? with
    | none=>simp[ho] at hs
    | some ob =>
      have aT:=h.ez id ob ho
      cases ob with
      | gone=>simp[ho] at hs
      | mp ag L=>simp[ho] at hs
      | var cells=>simp[ho] at hs
      | arr kf rows =>
        simp only[ho] at hs
        split at hs
        · rename_i he
          subst he
          simp at hs
          obtain ⟨rfl,rfl⟩:=hs
          obtain ⟨_,cF,aT⟩:=aT
          cases hv with
          | bW _ _ h=>cases h
          | kh _ _ _ _ _ h=>rw[ho] at h;simp at h
          | lE _ _ h hb =>
            rw[ho] at h;simp at h;subst h
            exact⟨none,0,fun _=>Go.undef,rfl,by simp,by simp,by simp[cellAt]⟩
          | lV _ _ _ b x bo fO h hb hl =>
            exact⟨some ⟨b,x,none⟩,0,fun _=>Go.undef,by simp,by simp,by simp,by simp[cellAt]⟩
          | ref _ _ _ _ b o cap cap' fO h hb hl hc kX =>
            rw[ho] at h;simp at h
            subst h
            rcases aT with ⟨h1,_⟩ | ⟨b',o',zU,cur,t,h1,h2,h3,h4,h5,h6⟩
            · rw[hb] at h1;simp at h1
            · rw[hb] at h1;simp at h1
              obtain ⟨rfl,rfl,rfl⟩:=h1
              have hlen:((rows.drop off).take len).length=len:=by simp;omega
              refine⟨_,cap',fun j=>cur.getD (o+off * kf+j) Go.undef,by rw[hlen],?_,fun _=>⟨b,o+off * kf,rfl,?_⟩,?_⟩
              · intro row a7
                exact cF row (List.mem_of_mem_drop (List.mem_of_mem_take a7))
              · intro j hj
                rw[hlen] at hj
                refine yb h2 ?_
                have:(off+len) * kf≤cap * kf:=mo _ (by omega)
                rw[fj] at this
                omega
              · intro r c v bd
                simp only[cellAt,sn,nr] at bd
                split at bd
                · have:=h6 (off+r) c v bd
                  rw[fj] at this
                  have e:o+(off * kf+r * kf+c)=o+off * kf+(r * kf+c):=by omega
                  rw[e] at this
                  exact this
                · simp at bd
        · simp at hs
  | _=>simp[mW] at hs
end Go.Am

