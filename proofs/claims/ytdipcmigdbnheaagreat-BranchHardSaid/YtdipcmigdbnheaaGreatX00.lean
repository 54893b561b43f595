import Derived.Orders
import Derived.Laws.AppendOwn
import Derived.Laws.MakeOwn
import Derived.Laws.Slices
import Derived.Laws.Small
set_option linter.unusedVariables false
set_option linter.unusedSimpArgs false
set_option linter.unnecessarySimpa false
set_option linter.unusedSectionVars false
set_option maxHeartbeats 64000000
set_option maxRecDepth 20000
open Nat renaming le_refl→aH,le_trans→j5,lt_of_lt_of_le→Gl,ne_of_lt→lv,lt_or_ge→eK
open List renaming getElem?_eq_some_iff→aS,getElem?_append_left→cj,getElem?_set→bS,replicate→bq
open Array renaming getD_eq_getD_getElem?→eQ,getElem?_eq_some_iff→oL
namespace Go.Am
inductive AV where
  | undef
  | lit (v:Value)
  | tree (sz:Nat) (rows:List (List AV))
  | db (cells:List AV)
  | ref (id sz off len:Nat)
  | ptr (id r c:Nat)
  | agg (cs:List AV)
  | bL (vs:List AV)
  | fn (f:FuncId) (bk:List AV)
  | gz (t:TypeId) (v:AV)
  | gl (id:Nat)
  deriving Inhabited
inductive Ob where
  | gone
  | var (cells:List AV)
  | arr (sz:Nat) (rows:List (List AV))
  | mp (ag:Nat) (L:List (List Int × AV))
  deriving Inhabited
structure St where
  env:Nat→AV
  aa:List Ob
def iG (e:Nat→AV) (d:Nat) (v:AV):Nat→AV:=fun k=>if k=d then v else e k
def cellAt (rows:List (List AV)) (r c:Nat):Option AV:=(rows[r]?).bind (·[c]?)
def fX (iI:List (Value × Value)):Array MapEntry:=(iI.mapIdx fun i p=>(⟨p.1,p.2,i⟩:MapEntry)).toArray
def kV (ag:Nat) (l:List Int):Value:=if ag=0 then .int .i64 (l.headD 0) else .agg (l.map fun n=>.int .i64 n).toArray
def jz (ag:Nat):Nat:=if ag=0 then 1 else ag
def dy (ag:Nat) (f:Nat→Value) (L:List (List Int × AV)):List (Value × Value):=L.mapIdx fun j p=>(kV ag p.1,f j)
theorem G6 (ag:Nat) (f:Nat→Value) (g:AV→AV) (L:List (List Int × AV)):dy ag f (L.map fun p=>(p.1,g p.2))=dy ag f L:=by
  unfold dy
  apply List.ext_getElem
  · simp
  · intros;simp
abbrev fU:=Nat→Option (Nat × Nat × Nat)
inductive gy (w:World) (Z:Nat→Prop):AV→Value→Prop where
  | lit (v:Value):gy w Z (.lit v) v
  | nil (sz cap:Nat) (a:Option Addr):gy w Z (.tree sz []) (.slice a 0 cap)
  | tree (sz:Nat) (rows:List (List AV)) (b o cap:Nat) (f:Nat→Nat→Value) (hz:Z b) (hr:∀ row∈rows,row.length=sz) (Be:rows.length≤cap)
      (hc:∀ r c x,cellAt rows r c=some x→w.cell? ⟨b,o+(r * sz+c),none⟩=some (f r c))
      (ht:∀ r c x,cellAt rows r c=some x→gy w Z x (f r c)):gy w Z (.tree sz rows) (.slice (some ⟨b,o,none⟩) rows.length cap)
inductive aw (os:List Ob) (w:World) (Z:Nat→Prop) (blk:fU):AV→Value→Prop where
  | undef (cv:Value):aw os w Z blk .undef cv
  | cd (v:AV) (cv:Value) (h:gy w Z v cv):aw os w Z blk v cv
  | db (cells:List AV) (b o:Nat) (f:Nat→Value) (hz:Z b) (hc:∀ j x,cells[j]?=some x→w.cell? ⟨b,o+j,none⟩=some (f j))
      (ht:∀ j x,cells[j]?=some x→gy w Z x (f j)):aw os w Z blk (.db cells) (.pointer (some ⟨b,o,none⟩))
  | kc (id sz off len:Nat) (cv:Value) (h:os[id]?=some .gone) (h1:cv.oneCell'=true):aw os w Z blk (.ref id sz off len) cv
  | lU (id r c:Nat) (cv:Value) (h:os[id]?=some .gone) (h1:cv.oneCell'=true):aw os w Z blk (.ptr id r c) cv
  | ref (id sz off len b o cap cap':Nat) (rows:List (List AV)) (h:os[id]?=some (.arr sz rows)) (hb:blk id=some (b,o,cap))
      (hl:off+len≤rows.length) (hc:off+cap'≤cap) (j6:len≤cap'):aw os w Z blk (.ref id sz off len) (.slice (some ⟨b,o+off * sz,none⟩) len cap')
  | lC (id sz:Nat) (h:os[id]?=some (.arr sz [])) (hb:blk id=none):aw os w Z blk (.ref id sz 0 0) (.slice none 0 0)
  | lV (id sz off b x:Nat) (bo:Nat × Nat) (rows:List (List AV)) (h:os[id]?=some (.arr sz rows)) (hb:blk id=some (b,bo)) (hl:off≤rows.length) :
      aw os w Z blk (.ref id sz off 0) (.slice (some ⟨b,x,none⟩) 0 0)
  | mF (id c b cap:Nat) (cells:List AV) (h:os[id]?=some (.var cells)) (hb:blk id=some (b,0,cap)):aw os w Z blk (.ptr id 0 c) (.pointer (some ⟨b,c,none⟩))
  | m9 (id r c sz b o cap:Nat) (rows:List (List AV)) (h:os[id]?=some (.arr sz rows)) (hb:blk id=some (b,o,cap)) :
      aw os w Z blk (.ptr id r c) (.pointer (some ⟨b,o+(r * sz+c),none⟩))
  | agg (cs:List AV) (aY:Array Value) (hs:aY.size=cs.length) (h:∀ j x,cs[j]?=some x→aw os w Z blk x (aY.getD j Go.undef)):aw os w Z blk (.agg cs) (.agg aY)
  | bL (cs:List AV) (aY:Array Value) (hs:aY.size=cs.length) (h:∀ j x,cs[j]?=some x→aw os w Z blk x (aY.getD j Go.undef)):aw os w Z blk (.bL cs) (.tuple aY)
  | fn (f:FuncId) (cs:List AV) (aY:Array Value) (hs:aY.size=cs.length) (h:∀ j x,cs[j]?=some x→aw os w Z blk x (aY.getD j Go.undef)) :
      aw os w Z blk (.fn f cs) (.func (.func f) #[] aY)
  | gz (t:TypeId) (v:AV) (cv:Value) (h:aw os w Z blk v cv):aw os w Z blk (.gz t v) (.iface t cv)
  | gl (id b:Nat) (ag:Nat) (L:List (List Int × AV)) (h:os[id]?=some (.mp ag L)) (hb:blk id=some (b,0,0)):aw os w Z blk (.gl id) (.map (some b))
  | pF (id:Nat) (cv:Value) (h:os[id]?=some .gone) (h1:cv.oneCell'=true):aw os w Z blk (.gl id) cv
def xp (os:List Ob) (w:World) (Z:Nat→Prop) (blk:fU) (i:Nat):Ob→Prop
  | .gone=>True
  | .var cells=>∃ b cap cur t,blk i=some (b,0,cap)∧w.heap[b]?=some (.cells cur t (0,0))∧cur.size=cells.length ∧
      ∀ c v,cells[c]?=some v→aw os w Z blk v (cur.getD c Go.undef)
  | .arr sz rows=>0<sz∧(∀ row∈rows,row.length=sz) ∧
      ((blk i=none∧rows=[])∨∃ b o cap cur t,blk i=some (b,o,cap)∧w.heap[b]?=some (.cells cur t (0,0))∧o+cap * sz≤cur.size∧rows.length≤cap∧cap≤maxLen ∧
        ∀ r c v,cellAt rows r c=some v→aw os w Z blk v (cur.getD (o+(r * sz+c)) Go.undef))
  | .mp ag L=>∃ b,∃ f:Nat→Value,blk i=some (b,0,0)∧w.heap[b]?=some (.map (fX (dy ag f L)) L.length)∧(∀ p∈L,p.1.length=jz ag)∧∀ (j:Nat) p,L[j]?=some p→aw os w Z blk p.2 (f j)
structure Cx where
  w:World
  tmps:Array Value
  Z:Nat→Prop
  blk:fU
def Live (os:List Ob) (i:Nat):Prop:=∃ o,os[i]?=some o∧o≠.gone
def nU (os:List Ob) (blk:fU) (b:Nat):Prop:=∃ i o cap,Live os i∧blk i=some (b,o,cap)
structure br (σ:St) (γ:Cx):Prop where
  av:∀ k,aw σ.aa γ.w γ.Z γ.blk (σ.env k) (γ.tmps.getD k Go.undef)
  er:∀ (i:Nat) o,σ.aa[i]?=some o→xp σ.aa γ.w γ.Z γ.blk i o
  inj:∀ i j b o c o' c',Live σ.aa i→Live σ.aa j→γ.blk i=some (b,o,c)→γ.blk j=some (b,o',c')→i=j
  nz:∀ b,nU σ.aa γ.blk b→¬ γ.Z b
  gB:∀ b,γ.Z b→b<γ.w.heap.size
def Ob.dX:Ob→Ob→Prop
  | .var a,.var b=>a.length=b.length
  | .arr s a,.arr s' b=>s=s'∧a.length=b.length
  | .mp a _,.mp b _=>a=b
  | _,_=>False
theorem Ob.jB {o:Ob} (h:o≠.gone):o.dX o:=by
  cases o<;>simp_all [Ob.dX]
theorem Ob.HG {a b c:Ob} (h:a.dX b) (k:b.dX c):a.dX c:=by
  cases a<;>cases b<;>cases c<;>simp_all [Ob.dX]
theorem Ob.ZI {a b:Ob} (h:a.dX b):a≠.gone∧b≠.gone:=by
  cases a<;>cases b<;>simp_all [Ob.dX]
structure Fr (zm:List Ob) (oX:Cx) (os:List Ob) (γ:Cx):Prop where
  lT:γ.w.os=oX.w.os
  tape:γ.w.tape=oX.w.tape
  output:γ.w.output=oX.w.output
  size:oX.w.heap.size≤γ.w.heap.size
  fC:∀ b,b<oX.w.heap.size→¬ nU zm oX.blk b→γ.w.heap[b]?=oX.w.heap[b]?
  z0:∀ b,oX.Z b→γ.Z b
  z1:∀ b,γ.Z b→oX.Z b∨nU zm oX.blk b∨oX.w.heap.size≤b
  own:∀ b,nU os γ.blk b→nU zm oX.blk b∨oX.w.heap.size≤b
  len:zm.length≤os.length
  kG:∀ i,i<zm.length→Live os i→γ.blk i=oX.blk i∧∃ o o',zm[i]?=some o∧os[i]?=some o'∧o.dX o'
theorem Fr.refl (os:List Ob) (γ:Cx):Fr os γ os γ :=
  ⟨rfl,rfl,rfl,aH _,fun _ _ _=>rfl,fun _ h=>h,fun _ h=>.inl h,fun _ h=>.inl h,aH _,fun _ _ ⟨o,ho,hg⟩=>⟨rfl,o,o,ho,ho,Ob.jB hg⟩⟩
theorem Fr.trans {a b c:List Ob} {x y z:Cx} (h:Fr a x b y) (k:Fr b y c z):Fr a x c z where
  lT:=k.lT.trans h.lT
  tape:=k.tape.trans h.tape
  output:=k.output.trans h.output
  size:=j5 h.size k.size
  fC:=fun n hn ho=>(k.fC n (Gl hn h.size) (fun hw=>(h.own n hw).elim ho (fun hl=>by omega))).trans (h.fC n hn ho)
  z0:=fun n hn=>k.z0 n (h.z0 n hn)
  z1:=fun n hn=>by
    rcases k.z1 n hn with h1 | h1 | h1
    · exact h.z1 n h1
    · rcases h.own n h1 with h2 | h2
      · exact .inr (.inl h2)
      · exact .inr (.inr h2)
    · exact .inr (.inr (j5 h.size h1))
  own:=fun n hn=>by
    rcases k.own n hn with h1 | h1
    · exact h.own n h1
    · exact .inr (j5 h.size h1)
  len:=j5 h.len k.len
  kG:=fun i hi hl=>by
    obtain ⟨h1,o,o',ho,cf,hk⟩:=k.kG i (Gl hi h.len) hl
    obtain ⟨h3,x,x',hx,cX,aP⟩:=h.kG i hi ⟨o,ho,(Ob.ZI hk).1⟩
    rw[ho] at cX
    simp at cX
    subst cX
    exact⟨h1.trans h3,x,o',hx,cf,Ob.HG aP hk⟩
theorem Nt {w w':World} {b o:Nat} (h:w'.heap[b]?=w.heap[b]?):w'.cell? ⟨b,o,none⟩=w.cell? ⟨b,o,none⟩:=by
  simp[World.cell?,h]
theorem gy.mono {w w':World} {Z Z':Nat→Prop} {v:AV} {cv:Value} (h:gy w Z v cv) (hz:∀ b,Z b→Z' b∧w'.heap[b]?=w.heap[b]?):gy w' Z' v cv:=by
  induction h with
  | lit v=>exact .lit v
  | nil sz cap a=>exact .nil sz cap a
  | tree sz rows b o cap f uf hr Be hc _ ih =>
    exact .tree sz rows b o cap f (hz b uf).1 hr Be (fun r c x hx=>by rw[Nt (hz b uf).2];exact hc r c x hx) ih
theorem aw.mono {os os':List Ob} {w w':World} {Z Z':Nat→Prop} {blk jM:fU} {v:AV} {cv:Value} (h:aw os w Z blk v cv)
    (hz:∀ b,Z b→Z' b∧w'.heap[b]?=w.heap[b]?)
    (ho:∀ i o,os[i]?=some o→os'[i]?=some .gone∨(jM i=blk i∧∃ o',os'[i]?=some o'∧o.dX o')):aw os' w' Z' jM v cv:=by
  induction h with
  | undef cv=>exact .undef cv
  | cd v cv h=>exact .cd v cv (h.mono hz)
  | db cells b o f uf hc ht =>
    exact .db cells b o f (hz b uf).1 (fun j x hx=>by rw[Nt (hz b uf).2];exact hc j x hx) (fun j x hx=>(ht j x hx).mono hz)
  | kc id sz off len cv h h1 =>
    rcases ho id _ h with h' | ⟨_,o',_,hl⟩
    · exact .kc id sz off len cv h' h1
    · exact absurd hl (by simp[Ob.dX])
  | lU id r c cv h h1 =>
    rcases ho id _ h with h' | ⟨_,o',_,hl⟩
    · exact .lU id r c cv h' h1
    · exact absurd hl (by simp[Ob.dX])
  | ref id sz off len b o cap cap' rows h hb hl hc j6 =>
    rcases ho id _ h with h' | ⟨fG,o',cf,hk⟩
    · exact .kc _ _ _ _ _ h' rfl
    · cases o'<;>simp[Ob.dX] at hk
      obtain ⟨rfl,hk⟩:=hk
      exact .ref id sz off len b o cap cap' _ cf (fG.trans hb) (by omega) hc j6
  | lC id sz h hb =>
    rcases ho id _ h with h' | ⟨fG,o',cf,hk⟩
    · exact .kc _ _ _ _ _ h' rfl
    · cases o'<;>simp[Ob.dX] at hk
      obtain ⟨rfl,hk⟩:=hk
      have aP:=List.eq_nil_of_length_eq_zero hk.symm
      subst aP
      exact .lC id sz cf (fG.trans hb)
  | lV id sz off b x bo rows h hb hl =>
    rcases ho id _ h with h' | ⟨fG,o',cf,hk⟩
    · exact .kc _ _ _ _ _ h' rfl
    · cases o'<;>simp[Ob.dX] at hk
      obtain ⟨rfl,hk⟩:=hk
      exact .lV id sz off b x bo _ cf (fG.trans hb) (by omega)
  | mF id c b cap cells h hb =>
    rcases ho id _ h with h' | ⟨fG,o',cf,hk⟩
    · exact .lU _ _ _ _ h' rfl
    · cases o'<;>simp[Ob.dX] at hk
      exact .mF id c b cap _ cf (fG.trans hb)
  | m9 id r c sz b o cap rows h hb =>
    rcases ho id _ h with h' | ⟨fG,o',cf,hk⟩
    · exact .lU _ _ _ _ h' rfl
    · cases o'<;>simp[Ob.dX] at hk
      obtain ⟨rfl,hk⟩:=hk
      exact .m9 id r c sz b o cap _ cf (fG.trans hb)
  | agg cs aY hs _ ih=>exact .agg cs aY hs ih
  | bL cs aY hs _ ih=>exact .bL cs aY hs ih
  | fn f cs aY hs _ ih=>exact .fn f cs aY hs ih
  | gz t v cv _ ih=>exact .gz t v cv ih
  | gl id b ag L h hb =>
    rcases ho id _ h with h' | ⟨fG,o',cf,hk⟩
    · exact .pF _ _ h' rfl
    · cases o'<;>simp[Ob.dX] at hk
      subst hk
      exact .gl id b _ _ cf (fG.trans hb)
  | pF id cv h h1 =>
    rcases ho id _ h with h' | ⟨_,o',cf,hk⟩
    · exact .pF _ _ h' h1
    · cases o'<;>simp[Ob.dX] at hk
theorem Live.lt {os:List Ob} {i:Nat} (h:Live os i):i<os.length:=by
  obtain ⟨o,ho,_⟩:=h
  exact (aS.1 ho).1
theorem aw.same {os:List Ob} {w w':World} {Z:Nat→Prop} {blk:fU} {v:AV} {cv:Value} (h:aw os w Z blk v cv) (hw:w'.heap=w.heap):aw os w' Z blk v cv :=
  h.mono (fun b hb=>⟨hb,by rw[hw]⟩) (fun i o ho=>by
    by_cases hg:o=.gone
    · subst hg;exact .inl ho
    · exact .inr ⟨rfl,o,ho,Ob.jB hg⟩)
theorem xp.mono {os os':List Ob} {w w':World} {Z Z':Nat→Prop} {blk jM:fU} {i:Nat} {o:Ob} (h:xp os w Z blk i o)
    (hR:∀ v cv,aw os w Z blk v cv→aw os' w' Z' jM v cv) (hb:jM i=blk i)
    (hk:∀ b o c,blk i=some (b,o,c)→w'.heap[b]?=w.heap[b]?):xp os' w' Z' jM i o:=by
  cases o with
  | gone=>trivial
  | var cells =>
    obtain ⟨b,cap,cur,t,h1,h2,h3,h4⟩:=h
    exact⟨b,cap,cur,t,hb.trans h1,(hk _ _ _ h1).trans h2,h3,fun c v hv=>hR _ _ (h4 c v hv)⟩
  | arr sz rows =>
    obtain ⟨h0,hr,h⟩:=h
    refine⟨h0,hr,?_⟩
    rcases h with ⟨h1,h2⟩ | ⟨b,o,cap,cur,t,h1,h2,h3,h4,h5,h6⟩
    · exact .inl ⟨hb.trans h1,h2⟩
    · exact .inr ⟨b,o,cap,cur,t,hb.trans h1,(hk _ _ _ h1).trans h2,h3,h4,h5,fun r c v hv=>hR _ _ (h6 r c v hv)⟩
  | mp ag L =>
    obtain ⟨b,f,h1,h2,h3,h4⟩:=h
    exact⟨b,f,hb.trans h1,(hk _ _ _ h1).trans h2,h3,fun j p hp=>hR _ _ (h4 j p hp)⟩
theorem br.put {σ:St} {γ:Cx} (h:br σ γ) (d:Nat) (hd:d<γ.tmps.size) {v:AV} {cv:Value} (hv:aw σ.aa γ.w γ.Z γ.blk v cv) :
    br { σ with env:=iG σ.env d v } { γ with tmps:=γ.tmps.setIfInBounds d cv } where
  av:=fun k=>by
    simp only[iG]
    by_cases hk:k=d
    · subst hk
      simp[eQ,hd]
      exact hv
    · simp only[hk,if_false,eQ,Array.getElem?_setIfInBounds_ne (Ne.symm hk)]
      have:=h.av k
      simpa [eQ] using this
  er:=h.er
  inj:=h.inj
  nz:=h.nz
  gB:=h.gB
theorem br.Ha {σ:St} {γ:Cx} (h:br σ γ) {w':World} (hw:w'.heap=γ.w.heap):br σ { γ with w:=w' } where
  av:=fun k=>(h.av k).same hw
  er:=fun i o ho=>(h.er i o ho).mono (fun v cv hv=>hv.same hw) rfl (fun b _ _ _=>by rw[hw])
  inj:=h.inj
  nz:=h.nz
  gB:=fun b hb=>by have:=h.gB b hb;simpa [hw] using this
theorem Fr.Ha {a b:List Ob} {x y:Cx} (h:Fr a x b y) {w':World} (hw:w'.heap=y.w.heap) (h1:w'.os=y.w.os) (h2:w'.tape=y.w.tape) (h3:w'.output=y.w.output) :
    Fr a x b { y with w:=w' } :=
  h.trans ⟨h1,h2,h3,by simp[hw],fun _ _ _=>by simp[hw],fun _ h=>h,fun _ h=>.inl h,fun _ h=>.inl h,aH _,fun _ _ ⟨o,ho,hg⟩=>⟨rfl,o,o,ho,ho,Ob.jB hg⟩⟩
theorem Fr.put {a b:List Ob} {x y:Cx} (h:Fr a x b y) (t:Array Value):Fr a x b { y with tmps:=t }:=⟨h.lT,h.tape,h.output,h.size,h.fC,h.z0,h.z1,h.own,h.len,h.kG⟩
def cL (blk:fU) (n:Nat) (x:Option (Nat × Nat × Nat)):fU:=fun i=>if i=n then x else blk i
def rG (os:List Ob) (w:World) (Z:Nat→Prop) (blk:fU) (o cap:Nat) (cur:Array Value):Ob→Prop
  | .gone=>True
  | .var cells=>o=0∧cur.size=cells.length∧∀ c v,cells[c]?=some v→aw os w Z blk v (cur.getD c Go.undef)
  | .arr sz rows=>0<sz∧(∀ row∈rows,row.length=sz)∧o+cap * sz≤cur.size∧rows.length≤cap∧cap≤maxLen ∧
        ∀ r c v,cellAt rows r c=some v→aw os w Z blk v (cur.getD (o+(r * sz+c)) Go.undef)
  | .mp _ _=>False
theorem rG.HA {os os':List Ob} {w w':World} {Z Z':Nat→Prop} {blk jM:fU} {i b o cap:Nat} {cur:Array Value} {t:TypeId} {ob:Ob} (h:rG os w Z blk o cap cur ob)
    (hR:∀ v cv,aw os w Z blk v cv→aw os' w' Z' jM v cv) (hb:jM i=some (b,o,cap)) (hk:w'.heap[b]?=some (.cells cur t (0,0))):xp os' w' Z' jM i ob:=by
  cases ob with
  | gone=>trivial
  | var cells =>
    obtain ⟨h0,h1,h2⟩:=h
    subst h0
    exact⟨b,cap,cur,t,hb,hk,h1,fun c v hv=>hR _ _ (h2 c v hv)⟩
  | arr sz rows =>
    obtain ⟨h0,h1,h2,h3,h4,h5⟩:=h
    exact⟨h0,h1,.inr ⟨b,o,cap,cur,t,hb,hk,h2,h3,h4,fun r c v hv=>hR _ _ (h5 r c v hv)⟩⟩
  | mp ag L=>exact h.elim
theorem br.A4 {σ:St} {γ:Cx} (h:br σ γ) {w':World} {x:Obj} {cap:Nat} {ob:Ob}
    (hw:w'.heap=γ.w.heap.push x) (aZ:∀ os' w' jM,(∀ v cv,aw σ.aa γ.w γ.Z γ.blk v cv→aw os' w' γ.Z jM v cv)→jM σ.aa.length=some (γ.w.heap.size,0,cap)→w'.heap[γ.w.heap.size]?=some x→xp os' w' γ.Z jM σ.aa.length ob) :
    br { σ with aa:=σ.aa++[ob] } { γ with w:=w',blk:=cL γ.blk σ.aa.length (some (γ.w.heap.size,0,cap)) }:=by
  have bj:∀ b,b<γ.w.heap.size→w'.heap[b]?=γ.w.heap[b]?:=fun b hb=>by
    rw[hw,Array.getElem?_push,if_neg (by omega)]
  have hR:∀ v cv,aw σ.aa γ.w γ.Z γ.blk v cv→aw (σ.aa++[ob]) w' γ.Z (cL γ.blk σ.aa.length (some (γ.w.heap.size,0,cap))) v cv:=fun v cv hv =>
    hv.mono (fun b hb=>⟨hb,bj b (h.gB b hb)⟩) (fun i o ho=>by
      have hi:i<σ.aa.length:=(aS.1 ho).1
      have cf:(σ.aa++[ob])[i]?=some o:=by rw[cj hi];exact ho
      by_cases bD:o=.gone
      · subst bD;exact .inl cf
      · exact .inr ⟨by simp[cL,lv hi],o,cf,Ob.jB bD⟩)
  have cq:∀ i,Live (σ.aa++[ob]) i→i=σ.aa.length∨Live σ.aa i:=by
    rintro i ⟨o,ho,bD⟩
    rcases eK i σ.aa.length with hi | hi
    · rw[cj hi] at ho
      exact .inr ⟨o,ho,bD⟩
    · left
      have:=(aS.1 ho).1
      simp at this
      omega
  have pH:∀ i b o c,Live σ.aa i→γ.blk i=some (b,o,c)→b<γ.w.heap.size:=by
    rintro i b o c ⟨x,hx,dD⟩ hb
    have:=h.er i x hx
    cases x with
    | gone=>exact absurd rfl dD
    | var cells =>
      obtain ⟨b',cap',nZ,t',h1,h2,_⟩:=this
      rw[hb] at h1;simp at h1
      obtain ⟨rfl,_⟩:=h1
      exact (oL.1 h2).1
    | arr sz rows =>
      obtain ⟨_,_,⟨h1,_⟩ | ⟨b',o',cap',nZ,t',h1,h2,_⟩⟩:=this
      · rw[hb] at h1;simp at h1
      · rw[hb] at h1;simp at h1
        obtain ⟨rfl,_⟩:=h1
        exact (oL.1 h2).1
    | mp ag L =>
      obtain ⟨b',f',h1,h2,_⟩:=this
      rw[hb] at h1;simp at h1
      obtain ⟨rfl,_⟩:=h1
      exact (oL.1 h2).1
  refine⟨fun k=>hR _ _ (h.av k),?_,?_,?_,?_⟩
  · intro i o ho
    rcases eK i σ.aa.length with hi | hi
    · have cf:σ.aa[i]?=some o:=by rw[cj hi] at ho;exact ho
      by_cases bD:o=.gone
      · subst bD;trivial
      · refine (h.er i o cf).mono hR (by simp[cL,lv hi]) (fun b x c hb=>bj b (pH i b x c ⟨o,cf,bD⟩ hb))
    · have hi':i=σ.aa.length:=by
        have:=(aS.1 ho).1
        simp at this
        omega
      subst hi'
      simp at ho
      subst ho
      exact aZ _ _ _ hR (by simp[cL]) (by rw[hw];simp)
  · intro i j b o c o' c' hi hj fM gn
    simp only[cL] at fM gn
    rcases cq i hi with rfl | hi'<;>rcases cq j hj with rfl | dZ
    · rfl
    · rw[if_pos rfl] at fM
      rw[if_neg (lv dZ.lt)] at gn
      have:=pH _ _ _ _ dZ gn
      simp at fM
      omega
    · rw[if_pos rfl] at gn
      rw[if_neg (lv hi'.lt)] at fM
      have:=pH _ _ _ _ hi' fM
      simp at gn
      omega
    · rw[if_neg (lv dZ.lt)] at gn
      rw[if_neg (lv hi'.lt)] at fM
      exact h.inj i j b o c o' c' hi' dZ fM gn
  · rintro b ⟨i,o,c,hi,hb⟩ hz
    simp only[cL] at hb
    rcases cq i hi with rfl | hi'
    · rw[if_pos rfl] at hb
      simp at hb
      have:=h.gB b hz
      omega
    · rw[if_neg (lv hi'.lt)] at hb
      exact h.nz b ⟨i,o,c,hi',hb⟩ hz
  · intro b hb
    have:=h.gB b hb
    rw[hw];simp;omega
theorem br.push {σ:St} {γ:Cx} (h:br σ γ) {w':World} {cur:Array Value} {t:TypeId} {cap:Nat} {ob:Ob}
    (hw:w'.heap=γ.w.heap.push (.cells cur t (0,0))) (aZ:rG σ.aa γ.w γ.Z γ.blk 0 cap cur ob) :
    br { σ with aa:=σ.aa++[ob] } { γ with w:=w',blk:=cL γ.blk σ.aa.length (some (γ.w.heap.size,0,cap)) } :=
  h.A4 hw fun _ _ _ hR hb hk=>aZ.HA hR hb hk
theorem br.blt {σ:St} {γ:Cx} (h:br σ γ) {i b o c:Nat} (hl:Live σ.aa i) (hb:γ.blk i=some (b,o,c)):b<γ.w.heap.size:=by
  obtain ⟨x,hx,dD⟩:=hl
  have:=h.er i x hx
  cases x with
  | gone=>exact absurd rfl dD
  | var cells =>
    obtain ⟨b',cap',nZ,t',h1,h2,_⟩:=this
    rw[hb] at h1;simp at h1
    obtain ⟨rfl,_⟩:=h1
    exact (oL.1 h2).1
  | arr sz rows =>
    obtain ⟨_,_,⟨h1,_⟩ | ⟨b',o',cap',nZ,t',h1,h2,_⟩⟩:=this
    · rw[hb] at h1;simp at h1
    · rw[hb] at h1;simp at h1
      obtain ⟨rfl,_⟩:=h1
      exact (oL.1 h2).1
  | mp ag L =>
    obtain ⟨b',f',h1,h2,_⟩:=this
    rw[hb] at h1;simp at h1
    obtain ⟨rfl,_⟩:=h1
    exact (oL.1 h2).1
theorem Fr.A4 {σ:St} {γ:Cx} {w':World} {x0:Obj} {cap:Nat} (ob:Ob)
    (hw:w'.heap=γ.w.heap.push x0) (h1:w'.os=γ.w.os) (h2:w'.tape=γ.w.tape) (h3:w'.output=γ.w.output) :
    Fr σ.aa γ (σ.aa++[ob]) { γ with w:=w',blk:=cL γ.blk σ.aa.length (some (γ.w.heap.size,0,cap)) } where
  lT:=h1
  tape:=h2
  output:=h3
  size:=by rw[hw];simp
  fC:=fun b hb _=>by simp only[hw,Array.getElem?_push];rw[if_neg (by omega)]
  z0:=fun _ h=>h
  z1:=fun _ h=>.inl h
  own:=by
    rintro b ⟨i,o,c,⟨x,hx,dD⟩,hb⟩
    simp only[cL] at hb
    split at hb
    · simp at hb;right;omega
    · rename_i dL
      have hi:i<σ.aa.length:=by have:=(aS.1 hx).1;simp at this;omega
      rw[cj hi] at hx
      exact .inl ⟨i,o,c,⟨x,hx,dD⟩,hb⟩
  len:=by simp
  kG:=by
    rintro i hi ⟨x,hx,dD⟩
    have hx0:=hx
    rw[cj hi] at hx
    exact⟨by simp[cL,lv hi],x,x,hx,hx0,Ob.jB dD⟩
theorem Fr.push {σ:St} {γ:Cx} {w':World} {cur:Array Value} {t:TypeId} {cap:Nat} (ob:Ob)
    (hw:w'.heap=γ.w.heap.push (.cells cur t (0,0))) (h1:w'.os=γ.w.os) (h2:w'.tape=γ.w.tape) (h3:w'.output=γ.w.output) :
    Fr σ.aa γ (σ.aa++[ob]) { γ with w:=w',blk:=cL γ.blk σ.aa.length (some (γ.w.heap.size,0,cap)) }:=Fr.A4 ob hw h1 h2 h3
theorem br.kill {σ:St} {γ:Cx} (h:br σ γ) (id:Nat):br { σ with aa:=σ.aa.set id .gone } γ:=by
  have hR:∀ v cv,aw σ.aa γ.w γ.Z γ.blk v cv→aw (σ.aa.set id .gone) γ.w γ.Z γ.blk v cv:=fun v cv hv =>
    hv.mono (fun b hb=>⟨hb,rfl⟩) (fun i o ho=>by
      have hi:i<σ.aa.length:=(aS.1 ho).1
      rw[bS]
      by_cases lX:id=i
      · left;simp[lX,hi]
      · rw[if_neg lX]
        by_cases bD:o=.gone
        · subst bD;exact .inl ho
        · exact .inr ⟨rfl,o,ho,Ob.jB bD⟩)
  have cq:∀ i,Live (σ.aa.set id .gone) i→Live σ.aa i:=by
    rintro i ⟨o,ho,bD⟩
    rw[bS] at ho
    split at ho
    · split at ho<;>simp at ho;exact absurd ho.symm bD
    · exact⟨o,ho,bD⟩
  refine⟨fun k=>hR _ _ (h.av k),?_,fun i j b o c o' c' hi hj=>h.inj i j b o c o' c' (cq i hi) (cq j hj),?_,h.gB⟩
  · intro i o ho
    rw[bS] at ho
    split at ho
    · split at ho<;>simp at ho
      subst ho
      trivial
    · exact (h.er i o ho).mono hR rfl (fun _ _ _ _=>rfl)
  · rintro b ⟨i,o,c,hi,hb⟩
    exact h.nz b ⟨i,o,c,cq i hi,hb⟩
theorem Fr.kill (os:List Ob) (γ:Cx) (id:Nat):Fr os γ (os.set id .gone) γ where
  lT:=rfl
  tape:=rfl
  output:=rfl
  size:=aH _
  fC:=fun _ _ _=>rfl
  z0:=fun _ h=>h
  z1:=fun _ h=>.inl h
  own:=by
    rintro b ⟨i,o,c,⟨x,hx,dD⟩,hb⟩
    rw[bS] at hx
    split at hx
    · split at hx<;>simp at hx;exact absurd hx.symm dD
    · exact .inl ⟨i,o,c,⟨x,hx,dD⟩,hb⟩
  len:=by simp
  kG:=by
    rintro i hi ⟨x,hx,dD⟩
    have hx0:=hx
    rw[bS] at hx
    split at hx
    · split at hx<;>simp at hx;exact absurd hx.symm dD
    · exact⟨rfl,x,x,hx,hx0,Ob.jB dD⟩
theorem br.DV {σ:St} {γ:Cx} (h:br σ γ) {id:Nat} {ob ob':Ob} (ho:σ.aa[id]?=some ob) (hg:ob≠.gone) (ke:ob.dX ob') {b o cap:Nat} (hb:γ.blk id=some (b,o,cap))
    {w':World} (nh:∀ k,k≠b→w'.heap[k]?=γ.w.heap[k]?) (aW:w'.heap.size=γ.w.heap.size)
    (aZ:∀ os',(∀ v cv,aw σ.aa γ.w γ.Z γ.blk v cv→aw os' w' γ.Z γ.blk v cv)→xp os' w' γ.Z γ.blk id ob'):br { σ with aa:=σ.aa.set id ob' } { γ with w:=w' }:=by
  have cN:id<σ.aa.length:=(aS.1 ho).1
  have nY:Live σ.aa id:=⟨ob,ho,hg⟩
  have qt:ob'≠.gone:=by intro e;subst e;cases ob<;>simp[Ob.dX] at ke
  have hR:∀ v cv,aw σ.aa γ.w γ.Z γ.blk v cv→aw (σ.aa.set id ob') w' γ.Z γ.blk v cv:=fun v cv hv =>
    hv.mono (fun z hz=>⟨hz,nh z (fun e=>h.nz b ⟨id,o,cap,nY,hb⟩ (e ▸ hz))⟩) (fun i x hx=>by
      rw[bS]
      by_cases lX:id=i
      · subst lX
        rw[ho] at hx
        simp at hx
        subst hx
        right
        refine⟨rfl,ob',by simp[cN],ke⟩
      · rw[if_neg lX]
        by_cases bD:x=.gone
        · subst bD;exact .inl hx
        · exact .inr ⟨rfl,x,hx,Ob.jB bD⟩)
  have cq:∀ i,Live (σ.aa.set id ob') i→Live σ.aa i:=by
    rintro i ⟨x,hx,dD⟩
    rw[bS] at hx
    split at hx
    · rename_i e;subst e;exact nY
    · exact⟨x,hx,dD⟩
  refine⟨fun k=>hR _ _ (h.av k),?_,fun i j b o c o' c' hi hj=>h.inj i j b o c o' c' (cq i hi) (cq j hj),?_,fun z hz=>by rw[aW];exact h.gB z hz⟩
  · intro i x hx
    rw[bS] at hx
    by_cases lX:id=i
    · subst lX
      rw[if_pos rfl,if_pos cN] at hx
      simp at hx
      subst hx
      exact aZ _ hR
    · rw[if_neg lX] at hx
      by_cases bD:x=.gone
      · subst bD;trivial
      · refine (h.er i x hx).mono hR rfl (fun z y c hz=>nh z (fun e=>lX ?_))
        subst e
        exact h.inj id i z o cap y c nY ⟨x,hx,bD⟩ hb hz
  · rintro z ⟨i,y,c,hi,hz⟩
    exact h.nz z ⟨i,y,c,cq i hi,hz⟩
theorem br.write {σ:St} {γ:Cx} (h:br σ γ) {id:Nat} {ob ob':Ob} (ho:σ.aa[id]?=some ob) (hg:ob≠.gone) (ke:ob.dX ob') {b o cap:Nat} (hb:γ.blk id=some (b,o,cap))
    {w':World} {cur:Array Value} {t:TypeId} (hw:w'.heap[b]?=some (.cells cur t (0,0))) (nh:∀ k,k≠b→w'.heap[k]?=γ.w.heap[k]?) (aW:w'.heap.size=γ.w.heap.size)
    (aZ:rG σ.aa γ.w γ.Z γ.blk o cap cur ob'):br { σ with aa:=σ.aa.set id ob' } { γ with w:=w' } :=
  h.DV ho hg ke hb nh aW fun _ hR=>aZ.HA hR hb hw
theorem Fr.write {σ:St} {γ:Cx} {id:Nat} {ob:Ob} (ob':Ob) (ho:σ.aa[id]?=some ob) (hg:ob≠.gone) (ke:ob.dX ob') {b o cap:Nat} (hb:γ.blk id=some (b,o,cap))
    {w':World} (nh:∀ k,k≠b→w'.heap[k]?=γ.w.heap[k]?) (aW:w'.heap.size=γ.w.heap.size) (h1:w'.os=γ.w.os) (h2:w'.tape=γ.w.tape) (h3:w'.output=γ.w.output) :
    Fr σ.aa γ (σ.aa.set id ob') { γ with w:=w' } where
  lT:=h1
  tape:=h2
  output:=h3
  size:=by simp[aW]
  fC:=fun z _ lW=>nh z (fun e=>lW ⟨id,o,cap,⟨ob,ho,hg⟩,e ▸ hb⟩)
  z0:=fun _ h=>h
  z1:=fun _ h=>.inl h
  own:=by
    rintro z ⟨i,y,c,⟨x,hx,dD⟩,hz⟩
    rw[bS] at hx
    split at hx
    · rename_i e;subst e;exact .inl ⟨id,y,c,⟨ob,ho,hg⟩,hz⟩
    · exact .inl ⟨i,y,c,⟨x,hx,dD⟩,hz⟩
  len:=by simp
  kG:=by
    rintro i hi ⟨x,hx,dD⟩
    have hx0:=hx
    rw[bS] at hx
    split at hx
    · rename_i e;subst e;exact⟨rfl,ob,ob',ho,by rw[bS];simp[hi],ke⟩
    · exact⟨rfl,x,x,hx,hx0,Ob.jB dD⟩
end Go.Am
namespace Go.Am
structure Ty where
  kind:Nat
  size:Nat
  bytes:Nat
  elem:Nat
  len:Nat
  zero:Option (List Value)
  aL:List (Nat × Nat × Nat)
def uo (P:Program) (t:TypeId):Nat:=match P.info? t with | some i=>i.size | none=>0
def ty (P:Program) (t:TypeId):Ty :=
  match P.info? t,P.underlying t with
  | some i,some d =>
    let base:Ty:={ kind:=0,size:=i.size,bytes:=i.bytes,elem:=0,len:=0,zero:=i.zero.map (·.cells.toList),aL:=[] }
    match d with
    | .slice e=>{ base with kind:=1,elem:=e }
    | .array n e=>{ base with kind:=2,elem:=e,len:=n }
    | .struct fs=>{ base with kind:=3,aL:=fs.toList.map fun f=>(f.offset,f.type,uo P f.type) }
    | .string=>{ base with kind:=4 }
    | .int _=>{ base with kind:=5 }
    | .bool=>{ base with kind:=6 }
    | .pointer e=>{ base with kind:=7,elem:=e }
    | .map _ e=>{ base with kind:=8,elem:=e }
    | .func _ _ _=>{ base with kind:=9 }
    | _=>base
  | _,_=>{ kind:=99,size:=0,bytes:=0,elem:=0,len:=0,zero:=none,aL:=[] }
def Ty.isAgg (t:Ty):Bool:=t.kind == 2 || t.kind == 3
theorem rL {P:Program} {t:TypeId} (h:(ty P t).kind≠99) :∃i d,P.info? t=some i∧P.underlying t=some d∧(ty P t).size=i.size∧(ty P t).bytes=i.bytes∧(ty P t).zero=i.zero.map (·.cells.toList):=by
  unfold ty at h ⊢
  cases hi:P.info? t with
  | none=>simp[hi] at h
  | some i =>
    cases hd:P.underlying t with
    | none=>simp[hi,hd] at h
    | some d =>
      refine⟨i,d,rfl,rfl,?_,?_,?_⟩<;>cases d<;>rfl
theorem rJ {P:Program} {t:TypeId} (h:(ty P t).kind=1):P.underlying t=some (.slice (ty P t).elem):=by
  unfold ty at h ⊢
  cases hi:P.info? t<;>cases hd:P.underlying t<;>simp[hi,hd] at h ⊢
  rename_i i d
  cases d<;>simp at h ⊢
theorem Nh {P:Program} {t:TypeId} (h:(ty P t).kind=2):P.underlying t=some (.array (ty P t).len (ty P t).elem):=by
  unfold ty at h ⊢
  cases hi:P.info? t<;>cases hd:P.underlying t<;>simp[hi,hd] at h ⊢
  rename_i i d
  cases d<;>simp at h ⊢
theorem Hx {P:Program} {t:TypeId} (h:(ty P t).kind=3) :∃fs,P.underlying t=some (.struct fs)∧(ty P t).aL=fs.toList.map fun f=>(f.offset,f.type,uo P f.type):=by
  unfold ty at h ⊢
  cases hi:P.info? t<;>cases hd:P.underlying t<;>simp[hi,hd] at h ⊢
  rename_i i d
  cases d<;>simp at h ⊢
theorem Zk {P:Program} {t:TypeId} (h:(ty P t).kind=6):P.underlying t=some .bool:=by
  unfold ty at h
  cases hi:P.info? t<;>cases hd:P.underlying t<;>simp[hi,hd] at h ⊢
  rename_i i d
  cases d<;>simp at h ⊢
def dY:Value→AV
  | .agg cs=>.agg (cs.toList.map .lit)
  | v=>.lit v
def ev (σ:St):Operand→AV
  | .tmp t=>σ.env t
  | .const v=>dY v
  | .func f=>.fn f []
  | .global _=>.undef
def St.put (σ:St) (dst:Option Tmp) (v:AV):St :=
  match dst with
  | some d=>{ σ with env:=iG σ.env d v }
  | none=>σ
def cm:AV→Bool
  | .lit v=>v.oneCell'
  | .tree .. | .db _ | .ref .. | .ptr .. | .fn .. | .gz .. | .gl ..=>true
  | _=>false
def cellsOf:AV→List AV
  | .agg cs=>cs
  | v=>[v]
def setCells (cells:List AV) (c:Nat):List AV→List AV
  | []=>cells
  | v::vs=>setCells (cells.set c v) (c+1) vs
def lz (place:Nat→Option (Nat × Nat)) (cells:List AV):List (Nat × AV)→Option (List AV)
  | []=>some cells
  | (i,v)::rest =>
    match place i with
    | none=>none
    | some (off,size)=>if (cellsOf v).length=size∧off+size≤cells.length then lz place (setCells cells off (cellsOf v)) rest else none
def lA (sz:Nat):Nat→List AV→List (List AV)
  | 0,_=>[]
  | n+1,cs=>cs.take sz::lA sz n (cs.drop sz)
def rowOf (σ:St) (id r:Nat):Option (List AV) :=
  match σ.aa[id]? with
  | some (.var cells)=>if r=0 then some cells else none
  | some (.arr _ rows)=>rows[r]?
  | _=>none
def mZ (σ:St) (id r:Nat) (row:List AV):St :=
  match σ.aa[id]? with
  | some (.var _)=>{ σ with aa:=σ.aa.set id (.var row) }
  | some (.arr sz rows)=>{ σ with aa:=σ.aa.set id (.arr sz (rows.set r row)) }
  | _=>σ
def lB (t:Ty) (cells:List AV) (c:Nat) (K:AV→Prop):Prop :=
  if t.isAgg then c+t.size≤cells.length∧K (.agg ((cells.drop c).take t.size))
  else match cells[c]? with
    | some v=>K v
    | none=>False
def jy:List AV→Option (List Int)
  | []=>some []
  | .lit (.int .i64 a)::r=>(jy r).map (a::·)
  | _=>none
def oQ (P:Program) (t:TypeId) (n:Nat):Prop :=
  ∀ (w:World) (as bs:List Int),as.length=n→bs.length=n →
    (Op.equalIn 10000 t (.agg (as.map (Value.int .i64)).toArray) (.agg (bs.map (Value.int .i64)).toArray)).run P w=.ok (decide (as=bs)) w
def y9 (k:IntKind) (a b:Int):Int:=k.wrap ((BitVec.ofInt k.bits a &&& BitVec.ofInt k.bits b).toNat)
def Nu (a b:Int):Int:=IntKind.i64.wrap ((BitVec.ofInt 64 a &&& BitVec.ofInt 64 b).toNat)
theorem Nv (a b:Int):y9 .i64 a b=Nu a b:=by unfold y9 Nu;rfl
def fS (op:BinOp) (k:IntKind) (a b:Int) (K:Value→Prop):Prop :=
  match op with
  | .add=>(k.min≤a+b∧a+b≤k.max)∧K (.int k (a+b))
  | .sub=>(k.min≤a - b∧a - b≤k.max)∧K (.int k (a - b))
  | .mul=>(k.min≤a * b∧a * b≤k.max)∧K (.int k (a * b))
  | .quo=>(0≤a∧0<b∧a≤k.max)∧K (.int k (a / b))
  | .rem=>b≠0∧K (.int k (a.tmod b))
  | .and=>K (.int k (y9 k a b))
  | .shr=>(0≤b∧b.toNat≤k.bits)∧K (.int k (a / 2 ^ b.toNat))
  | .eql=>K (.bool (a == b))
  | .neq=>K (.bool (a != b))
  | .lss=>K (.bool (decide (a<b)))
  | .leq=>K (.bool (decide (a≤b)))
  | .gtr=>K (.bool (decide (a > b)))
  | .geq=>K (.bool (decide (a ≥ b)))
  | _=>False
def fe (t:Bool):AV→AV→AV
  | .lit (.bool x),.lit (.bool y)=>.lit (.bool (bif t then x else y))
  | a,b=>if t then a else b
def m4 (σ:St):AV→Option (Nat × List (List AV))
  | .tree sz rows=>some (sz,rows)
  | .ref id sz off len =>
    match σ.aa[id]? with
    | some (.arr cJ rows)=>if cJ=sz then some (sz,(rows.drop off).take len) else none
    | _=>none
  | _=>none
def pE (σ:St) (sz:Nat):AV→Option (List (List AV) × St)
  | .lit (.slice none 0 0)=>some ([],σ)
  | .ref id cJ off len =>
    match σ.aa[id]? with
    | some (.arr j8 rows)=>if j8=cJ∧cJ=sz then some ((rows.drop off).take len,{ σ with aa:=σ.aa.set id .gone }) else none
    | _=>none
  | _=>none
end Go.Am
namespace Go.Am
variable (P:Program)
def jg (l:List Int):List (List Int × AV)→Nat→Option Nat
  | [],_=>none
  | p::r,i=>if p.1=l then some i else jg l r (i+1)
def m0 (l:List Int) (L:List (List Int × AV)):Option AV:=(jg l L 0).bind fun i=>(L[i]?).map (·.2)
def fh (l:List Int) (v:AV) (L:List (List Int × AV)):List (List Int × AV) :=
  match jg l L 0 with
  | some i=>L.set i (l,v)
  | none=>L++[(l,v)]
def yK (l:List Int) (L:List (List Int × AV)):Nat:=(jg l L 0).getD L.length
def oR (n:Nat) (v:AV) (L:List (List Int × AV)):List (List Int × AV):=L.set n ((L.getD n ([],.undef)).1,v)
def j7 (P:Program) (t:TypeId) (ag:Nat):Prop:=∃ kt et,P.underlying t=some (.map kt et)∧∀ l:List Int,l.length=jz ag →
  (∀ e w,(Instr.checkKey e 10000 kt (kV ag l)).run P w=.ok () w)∧(∀ w,(Instr.keyThatStays (kV ag l) (kV ag l)).run P w=.ok (kV ag l) w) ∧
  ∀ (f:Nat→Value) (L:List (List Int × AV)) w,(∀ p∈L,p.1.length=jz ag)→(Instr.findKey kt (kV ag l) (fX (dy ag f L)).toList).run P w=.ok ((jg l L 0).map fun i=>(i,f i)) w
def zeroV (P:Program) (t:TypeId):Option Value :=
  match P.info? t with
  | some i=>i.zero
  | none=>none
def yJ (P:Program) (t:TypeId):Nat :=
  match P.underlying t with
  | some (.map kt _)=>if (ty P kt).isAgg then (ty P kt).size else 0
  | _=>0
def keyOf:AV→Option (Nat × List Int)
  | .lit (.int .i64 n)=>some (0,[n])
  | .agg cs=>(jy cs).map fun l=>(l.length,l)
  | _=>none
def kY (σ:St):AV→Option (Nat × Nat × List (List Int × AV))
  | .gl id =>
    match σ.aa[id]? with
    | some (.mp ag L)=>some (id,ag,L)
    | _=>none
  | _=>none
def GN (s:ByteArray) (n:Nat):Int :=
  match s[n]? with
  | some b=>b.toNat
  | none=>0
def tW (P:Program) (t:TypeId):Bool :=
  match P.underlying t with
  | some (.interface _)=>true
  | some _=>false
  | none=>true
def b8 (o:Oper) (σ:St) (K:St→Prop):Prop :=
  match o.op with
  | .move x | .assign x=>K (σ.put o.dst (ev σ x))
  | .pick c a b =>
    match ev σ c with
    | .lit (.bool t)=>K (σ.put o.dst (fe t (ev σ a) (ev σ b)))
    | _=>False
  | .alloc e =>
    (ty P e).kind≠99 ∧
    match (ty P e).zero with
    | some z=>K (({ σ with aa:=σ.aa++[.var (z.map .lit)] }:St).put o.dst (.ptr σ.aa.length 0 0))
    | none=>False
  | .box _ x=>(cellsOf (ev σ x)).all cm=true∧K (({ σ with aa:=σ.aa++[.var (cellsOf (ev σ x))] }:St).put o.dst (.ptr σ.aa.length 0 0))
  | .build t parts =>
    match (ty P t).kind,(ty P t).zero with
    | 3,some z =>
      match lz (fun i=>((ty P t).aL[i]?).map fun f=>(f.1,f.2.2)) (z.map .lit) (parts.toList.map fun p=>(p.1,ev σ p.2)) with
      | some cs=>((parts.toList.all fun p=>(cellsOf (ev σ p.2)).all cm)=true∧((ty P t).aL.all fun f=>decide (0<f.2.2))=true)∧K (σ.put o.dst (.agg cs))
      | none=>False
    | 2,some z =>
      match lz (fun i=>some (i * (ty P (ty P t).elem).size,(ty P (ty P t).elem).size)) (z.map .lit) (parts.toList.map fun p=>(p.1,ev σ p.2)) with
      | some cs=>((parts.toList.all fun p=>(cellsOf (ev σ p.2)).all cm)=true∧(ty P (ty P t).elem).kind≠99)∧K (σ.put o.dst (.agg cs))
      | none=>False
    | _,_=>False
  | .buildSlice t len parts =>
    match (ty P t).kind,(ty P (ty P t).elem).zero with
    | 1,some z =>
      match lz (fun i=>some (i * (ty P (ty P t).elem).size,(ty P (ty P t).elem).size)) ((List.range len).flatMap fun _=>z.map .lit) (parts.toList.map fun p=>(p.1,ev σ p.2)) with
      | some cs=>((ty P (ty P t).elem).kind≠99∧0<(ty P (ty P t).elem).size∧z.length=(ty P (ty P t).elem).size∧len * (ty P (ty P t).elem).size≤16777216∧(parts.toList.all fun p=>(cellsOf (ev σ p.2)).all cm)=true) ∧
          K (({ σ with aa:=σ.aa++[.arr (ty P (ty P t).elem).size (lA (ty P (ty P t).elem).size len cs)] }:St).put o.dst (.ref σ.aa.length (ty P (ty P t).elem).size 0 len))
      | none=>False
    | _,_=>False
  | .load t a =>
    (ty P t).kind≠99 ∧
    match ev σ a with
    | .ptr id r c =>
      match rowOf σ id r with
      | some row=>lB (ty P t) row c fun v=>K (σ.put o.dst v)
      | none=>False
    | .db cells=>lB (ty P t) cells 0 fun v=>K (σ.put o.dst v)
    | _=>False
  | .store t a x =>
    (ty P t).kind≠99 ∧
    match ev σ a with
    | .ptr id r c =>
      match rowOf σ id r with
      | some row=>((cellsOf (ev σ x)).length=(ty P t).size∧c+(ty P t).size≤row.length∧(cellsOf (ev σ x)).all cm=true)∧K ((mZ σ id r (setCells row c (cellsOf (ev σ x)))).put o.dst .undef)
      | none=>False
    | _=>False
  | .nilCheck x =>
    match ev σ x with
    | .ptr id r c =>
      match σ.aa[id]? with
      | some .gone=>False
      | some _=>K (σ.put o.dst (.ptr id r c))
      | none=>False
    | .db cells=>K (σ.put o.dst (.db cells))
    | _=>False
  | .binOp op t x y _ =>
    match ev σ x,ev σ y with
    | .lit (.int k a),.lit (.int k' b)=>k=k'∧fS op k a b fun v=>K (σ.put o.dst (.lit v))
    | .lit (.bool a),.lit (.bool b) =>
      (ty P t).kind=6 ∧
      match op with
      | .eql=>K (σ.put o.dst (.lit (.bool (a == b))))
      | .neq=>K (σ.put o.dst (.lit (.bool (a != b))))
      | _=>False
    | .tree _ rows,.lit (.slice none 0 0) =>
      ((ty P t).kind=1∧0<rows.length) ∧
      match op with
      | .eql=>K (σ.put o.dst (.lit (.bool false)))
      | .neq=>K (σ.put o.dst (.lit (.bool true)))
      | _=>False
    | .lit (.slice a _ _),.lit (.slice none 0 0) =>
      (ty P t).kind=1 ∧
      match op with
      | .eql=>K (σ.put o.dst (.lit (.bool a.isNone)))
      | .neq=>K (σ.put o.dst (.lit (.bool (!a.isNone))))
      | _=>False
    | .agg cs,.agg ds =>
      match jy cs,jy ds with
      | some as,some bs =>
        (oQ P t as.length∧bs.length=as.length∧P.eqGuardType P.depth t=false) ∧
        match op with
        | .eql=>K (σ.put o.dst (.lit (.bool (decide (as=bs)))))
        | .neq=>K (σ.put o.dst (.lit (.bool (!decide (as=bs)))))
        | _=>False
      | _,_=>False
    | _,_=>False
  | .unOp op _ x =>
    match op,ev σ x with
    | .not,.lit (.bool b)=>K (σ.put o.dst (.lit (.bool !b)))
    | .neg,.lit (.int k a)=>(k.min≤-a∧-a≤k.max)∧K (σ.put o.dst (.lit (.int k (-a))))
    | _,_=>False
  | .makeFunc fn first captured =>
    match fn with
    | .func f=>first.size=0∧K (σ.put o.dst (.fn f (captured.toList.map (ev σ))))
    | _=>False
  | .makeSlice t l c =>
    match (ty P t).kind,(ty P (ty P t).elem).zero,ev σ l,ev σ c with
    | 1,some z,.lit (.int k n),.lit (.int k' n') =>
      ((ty P (ty P t).elem).kind≠99∧0<(ty P (ty P t).elem).size∧z.length=(ty P (ty P t).elem).size∧n'=n∧0≤n∧n≤1099511627776∧(ty P (ty P t).elem).bytes≤128∧k=k) ∧
        K (({ σ with aa:=σ.aa++[.arr (ty P (ty P t).elem).size (bq n.toNat (z.map .lit))] }:St).put o.dst (.ref σ.aa.length (ty P (ty P t).elem).size 0 n.toNat))∧k'=k'
    | _,_,_,_=>False
  | .slice t x lo hi mx =>
    (ty P t).kind=1∧(ty P (ty P t).elem).kind≠99∧mx=none ∧
    match ev σ x with
    | .ref id sz off len =>
      match σ.aa[id]? with
      | some (.arr cJ rows) =>
        cJ=sz∧sz=(ty P (ty P t).elem).size ∧
        match lo.map (ev σ),hi.map (ev σ) with
        | none,none=>K (σ.put o.dst (.ref id sz off len))
        | some (.lit (.int _ l)),none=>(0≤l∧l≤len∧rows.length=rows.length)∧K (σ.put o.dst (.ref id sz (off+l.toNat) (len - l.toNat)))
        | none,some (.lit (.int _ h))=>(0≤h∧h≤len)∧K (σ.put o.dst (.ref id sz off h.toNat))
        | some (.lit (.int _ l)),some (.lit (.int _ h))=>(0≤l∧l≤h∧h≤len)∧K (σ.put o.dst (.ref id sz (off+l.toNat) (h.toNat - l.toNat)))
        | _,_=>False
      | _=>False
    | .tree sz rows =>
        (rows≠[]→sz=(ty P (ty P t).elem).size) ∧
        match lo.map (ev σ),hi.map (ev σ) with
        | none,none=>K (σ.put o.dst (.tree sz rows))
        | some (.lit (.int _ l)),none=>(0≤l∧l≤rows.length)∧K (σ.put o.dst (.tree sz (rows.drop l.toNat)))
        | none,some (.lit (.int _ h))=>(0≤h∧h≤rows.length)∧K (σ.put o.dst (.tree sz (rows.take h.toNat)))
        | some (.lit (.int _ l)),some (.lit (.int _ h))=>(0≤l∧l≤h∧h≤rows.length)∧K (σ.put o.dst (.tree sz ((rows.take h.toNat).drop l.toNat)))
        | _,_=>False
    | _=>False
  | .fieldAddr s x f =>
    match (ty P s).kind,(ty P s).aL[f]? with
    | 3,some (off,_,size) =>
      0<size ∧
      match ev σ x with
      | .ptr id r c =>
        match σ.aa[id]? with
        | some .gone=>False
        | some _=>K (σ.put o.dst (.ptr id r (c+off)))
        | none=>False
      | .db cells=>K (σ.put o.dst (.db (cells.drop off)))
      | _=>False
    | _,_=>False
  | .field s x f =>
    match (ty P s).kind,(ty P s).aL[f]? with
    | 3,some (off,t,size) =>
      (ty P t).kind≠99∧size=(ty P t).size ∧
      match ev σ x with
      | .agg cs=>if (ty P t).isAgg then off+size≤cs.length∧K (σ.put o.dst (.agg ((cs.drop off).take size))) else
          match cs[off]? with
          | some v=>K (σ.put o.dst v)
          | none=>False
      | _=>False
    | _,_=>False
  | .indexAddr t x i =>
    match (ty P t).kind,ev σ x,ev σ i with
    | 1,.ref id sz off len,.lit (.int _ n) =>
      match σ.aa[id]? with
      | some (.arr cJ _)=>(cJ=sz∧sz=(ty P (ty P t).elem).size∧(ty P (ty P t).elem).kind≠99∧0≤n∧n<len)∧K (σ.put o.dst (.ptr id (off+n.toNat) 0))
      | _=>False
    | 1,.tree sz rows,.lit (.int _ n)=>(sz=(ty P (ty P t).elem).size∧(ty P (ty P t).elem).kind≠99∧0≤n∧n<rows.length)∧K (σ.put o.dst (.db (rows.getD n.toNat [])))
    | 2,.ptr id r c,.lit (.int _ n) =>
      match σ.aa[id]? with
      | some .gone=>False
      | some _=>((ty P (ty P t).elem).kind≠99∧0≤n∧n<(ty P t).len)∧K (σ.put o.dst (.ptr id r (c+n.toNat * (ty P (ty P t).elem).size)))
      | none=>False
    | _,_,_=>False
  | .makeMap t r=>(r=none∧(ty P t).kind=8)∧K (({ σ with aa:=σ.aa++[.mp (yJ P t) []] }:St).put o.dst (.gl σ.aa.length))
  | .lookup t x i ok =>
    match keyOf (ev σ i),kY σ (ev σ x),zeroV P (ty P t).elem with
    | some (ag,l),some (_,hJ,L),some z=>(j7 P t ag∧hJ=ag∧l.length=jz ag∧(ty P t).kind=8∧ok=false)∧K (σ.put o.dst ((m0 l L).getD (.lit z)))
    | _,_,_=>False
  | .mapUpdate t m k x =>
    match keyOf (ev σ k),kY σ (ev σ m) with
    | some (ag,l),some (id,hJ,L)=>(j7 P t ag∧hJ=ag∧l.length=jz ag)∧K (({ σ with aa:=σ.aa.set id (.mp ag (fh l (ev σ x) L)) }:St).put o.dst .undef)
    | _,_=>False
  | .mapEntry t m k =>
    match keyOf (ev σ k),kY σ (ev σ m),zeroV P (ty P t).elem with
    | some (ag,l),some (id,hJ,L),some z=>(j7 P t ag∧hJ=ag∧l.length=jz ag∧(ty P t).kind=8) ∧
      K (({ σ with aa:=σ.aa.set id (.mp ag (fh l ((m0 l L).getD (.lit z)) L)) }:St).put o.dst (.bL [(m0 l L).getD (.lit z),.lit (.int .i64 (yK l L:Nat))]))
    | _,_,_=>False
  | .entryStore _ m s x =>
    match ev σ s,kY σ (ev σ m) with
    | .lit (.int .i64 n),some (id,ag,L)=>(0≤n∧n<L.length)∧K (({ σ with aa:=σ.aa.set id (.mp ag (oR n.toNat (ev σ x) L)) }:St).put o.dst .undef)
    | _,_=>False
  | .index t x i =>
    match ev σ x,ev σ i with
    | .lit (.string s),.lit (.int _ n)=>(P.underlying t=some .string∧0≤n∧n<s.size)∧K (σ.put o.dst (.lit (.int .u8 (GN s n.toNat))))
    | _,_=>False
  | .makeInterface t x=>tW P t=false∧K (σ.put o.dst (.gz t (ev σ x)))
  | .typeAssert x _ asserted ok =>
    match ev σ x with
    | .gz t v=>(tW P asserted=false∧t=asserted∧ok=false)∧K (σ.put o.dst v)
    | _=>False
  | .extract x i =>
    match ev σ x with
    | .bL vs =>
      match vs[i]? with
      | some v=>K (σ.put o.dst v)
      | none=>False
    | _=>False
  | .call { callee:=.builtin .len,args,argTypes } =>
    match args.toList,argTypes.toList with
    | [x],[t] =>
      match ev σ x with
      | .ref id sz _ len =>
        (ty P t).kind=1 ∧
        match σ.aa[id]? with
        | some (.arr cJ _)=>cJ=sz∧K (σ.put o.dst (.lit (.int .i64 len)))
        | _=>False
      | .tree _ rows=>(ty P t).kind=1∧K (σ.put o.dst (.lit (.int .i64 rows.length)))
      | .lit (.slice none 0 0)=>(ty P t).kind=1∧K (σ.put o.dst (.lit (.int .i64 0)))
      | .gl id =>
        (ty P t).kind=8 ∧
        match σ.aa[id]? with
        | some (.mp _ L)=>K (σ.put o.dst (.lit (.int .i64 L.length)))
        | _=>False
      | _=>False
    | _,_=>False
  | .call { callee:=.builtin .append,args,argTypes } =>
    match args.toList,argTypes.toList with
    | [s,x],[t,t'] =>
      match (ty P t).kind,(ty P (ty P t).elem).zero,pE σ (ty P (ty P t).elem).size (ev σ s),m4 σ (ev σ x) with
      | 1,some z,some (pre,σ1),some (sz,src) =>
        (t'=t∧(ty P (ty P t).elem).kind≠99∧sz=(ty P (ty P t).elem).size∧0<sz∧z.length=sz∧pre.length+src.length≤549755813888∧(ty P (ty P t).elem).bytes≤128∧(src.all fun row=>row.all cm)=true) ∧
          K (({ σ1 with aa:=σ1.aa++[.arr sz (pre++src)] }:St).put o.dst (.ref σ1.aa.length sz 0 (pre.length+src.length)))
      | _,_,_,_=>False
    | _,_=>False
  | .call { callee:=.builtin .min,args,argTypes:=_ } =>
    match args.toList with
    | [x,y] =>
      match ev σ x,ev σ y with
      | .lit (.int k a),.lit (.int k' b)=>k=k'∧K (σ.put o.dst (.lit (.int k (min a b))))
      | _,_=>False
    | _=>False
  | .call { callee:=.builtin .max,args,argTypes:=_ } =>
    match args.toList with
    | [x,y] =>
      match ev σ x,ev σ y with
      | .lit (.int k a),.lit (.int k' b)=>k=k'∧K (σ.put o.dst (.lit (.int k (max a b))))
      | _,_=>False
    | _=>False
  | .call { callee:=.builtin .copy,args,argTypes } =>
    match args.toList,argTypes.toList with
    | [s,x],[t,_] =>
      match ev σ s,m4 σ (ev σ x) with
      | .ref id sz off len,some (cJ,src) =>
        match σ.aa[id]? with
        | some (.arr j8 rows) =>
          ((ty P t).kind=1∧(ty P (ty P t).elem).kind≠99∧cJ=sz∧j8=sz∧sz=(ty P (ty P t).elem).size∧0<sz∧(src.all fun row=>row.all cm)=true) ∧
            K (({ σ with aa:=σ.aa.set id (.arr sz (rows.take off++src.take (min src.length len)++rows.drop (off+min src.length len))) }:St).put o.dst (.lit (.int .i64 (min src.length len:Nat))))
        | _=>False
      | _,_=>False
    | _,_=>False
  | .call { callee:=.builtin .clear,args,argTypes } =>
    match args.toList,argTypes.toList with
    | [s],[t] =>
      match ev σ s,(ty P (ty P t).elem).zero with
      | .ref id sz off len,some z =>
        match σ.aa[id]? with
        | some (.arr cJ rows) =>
          ((ty P t).kind=1∧(ty P (ty P t).elem).kind≠99∧cJ=sz∧z.length=sz∧0<sz∧(z.all fun u=>u.oneCell')=true) ∧
            K (({ σ with aa:=σ.aa.set id (.arr sz (rows.take off++bq len (z.map AV.lit)++rows.drop (off+len))) }:St).put o.dst (.lit (.tuple #[])))
        | _=>False
      | _,_=>False
    | _,_=>False
  | .convert s d x =>
    match P.underlying d,ev σ x with
    | some (.int k),.lit (.int _ n)=>(P.underlying s).isSome=true∧K (σ.put o.dst (.lit (.int k (k.wrap n))))
    | _,_=>False
  | _=>False
end Go.Am

