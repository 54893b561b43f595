import Derived.Orders
import Derived.Laws.AppendOwn
import Derived.Laws.MakeOwn
import Derived.Laws.Slices
import Derived.Laws.Small
set_option linter.unusedVariables false
set_option linter.unusedSimpArgs false
set_option linter.unnecessarySimpa false
set_option linter.unusedSectionVars false
set_option maxHeartbeats 64000000
set_option maxRecDepth 20000
namespace Go.Am
inductive AV where
  | undef
  | lit (v:Value)
  | tree (sz:Nat) (rows:List (List AV))
  | taddr (cells:List AV)
  | ref (id sz off len:Nat)
  | ptr (id r c:Nat)
  | agg (cs:List AV)
  | tup (vs:List AV)
  | fn (f:FuncId) (caps:List AV)
  | ifc (t:TypeId) (v:AV)
  | mref (id:Nat)
  deriving Inhabited
inductive Ob where
  | gone
  | var (cells:List AV)
  | arr (sz:Nat) (rows:List (List AV))
  | mp (ag:Nat) (L:List (List Int × AV))
  deriving Inhabited
structure St where
  env:Nat→AV
  objs:List Ob
def upd (e:Nat→AV) (d:Nat) (v:AV):Nat→AV:=fun k=>if k=d then v else e k
def cellAt (rows:List (List AV)) (r c:Nat):Option AV:=(rows[r]?).bind (·[c]?)
def mkEs (ents:List (Value × Value)):Array MapEntry:=(ents.mapIdx fun i p=>(⟨p.1,p.2,i⟩:MapEntry)).toArray
def kV (ag:Nat) (l:List Int):Value:=if ag=0 then .int .i64 (l.headD 0) else .agg (l.map fun n=>.int .i64 n).toArray
def kLen (ag:Nat):Nat:=if ag=0 then 1 else ag
def mpE (ag:Nat) (f:Nat→Value) (L:List (List Int × AV)):List (Value × Value):=L.mapIdx fun j p=>(kV ag p.1,f j)
theorem mpE_map (ag:Nat) (f:Nat→Value) (g:AV→AV) (L:List (List Int × AV)):mpE ag f (L.map fun p=>(p.1,g p.2))=mpE ag f L:=by
  unfold mpE
  apply List.ext_getElem
  · simp
  · intros;simp
abbrev Blk:=Nat→Option (Nat × Nat × Nat)
inductive TreeR (w:World) (Z:Nat→Prop):AV→Value→Prop where
  | lit (v:Value):TreeR w Z (.lit v) v
  | nil (sz cap:Nat) (a:Option Addr):TreeR w Z (.tree sz []) (.slice a 0 cap)
  | tree (sz:Nat) (rows:List (List AV)) (b o cap:Nat) (f:Nat→Nat→Value) (hz:Z b) (hr:∀ row∈rows,row.length=sz) (hcap:rows.length≤cap)
      (hc:∀ r c x,cellAt rows r c=some x→w.cell? ⟨b,o+(r * sz+c),none⟩=some (f r c))
      (ht:∀ r c x,cellAt rows r c=some x→TreeR w Z x (f r c)):TreeR w Z (.tree sz rows) (.slice (some ⟨b,o,none⟩) rows.length cap)
inductive RelV (os:List Ob) (w:World) (Z:Nat→Prop) (blk:Blk):AV→Value→Prop where
  | undef (cv:Value):RelV os w Z blk .undef cv
  | frz (v:AV) (cv:Value) (h:TreeR w Z v cv):RelV os w Z blk v cv
  | taddr (cells:List AV) (b o:Nat) (f:Nat→Value) (hz:Z b) (hc:∀ j x,cells[j]?=some x→w.cell? ⟨b,o+j,none⟩=some (f j))
      (ht:∀ j x,cells[j]?=some x→TreeR w Z x (f j)):RelV os w Z blk (.taddr cells) (.pointer (some ⟨b,o,none⟩))
  | deadRef (id sz off len:Nat) (cv:Value) (h:os[id]?=some .gone) (h1:cv.oneCell'=true):RelV os w Z blk (.ref id sz off len) cv
  | deadPtr (id r c:Nat) (cv:Value) (h:os[id]?=some .gone) (h1:cv.oneCell'=true):RelV os w Z blk (.ptr id r c) cv
  | ref (id sz off len b o cap cap':Nat) (rows:List (List AV)) (h:os[id]?=some (.arr sz rows)) (hb:blk id=some (b,o,cap))
      (hl:off+len≤rows.length) (hc:off+cap'≤cap) (hlc:len≤cap'):RelV os w Z blk (.ref id sz off len) (.slice (some ⟨b,o+off * sz,none⟩) len cap')
  | refNil (id sz:Nat) (h:os[id]?=some (.arr sz [])) (hb:blk id=none):RelV os w Z blk (.ref id sz 0 0) (.slice none 0 0)
  | refEnd (id sz off b x:Nat) (bo:Nat × Nat) (rows:List (List AV)) (h:os[id]?=some (.arr sz rows)) (hb:blk id=some (b,bo)) (hl:off≤rows.length) :
      RelV os w Z blk (.ref id sz off 0) (.slice (some ⟨b,x,none⟩) 0 0)
  | ptrV (id c b cap:Nat) (cells:List AV) (h:os[id]?=some (.var cells)) (hb:blk id=some (b,0,cap)):RelV os w Z blk (.ptr id 0 c) (.pointer (some ⟨b,c,none⟩))
  | ptrA (id r c sz b o cap:Nat) (rows:List (List AV)) (h:os[id]?=some (.arr sz rows)) (hb:blk id=some (b,o,cap)) :
      RelV os w Z blk (.ptr id r c) (.pointer (some ⟨b,o+(r * sz+c),none⟩))
  | agg (cs:List AV) (cvs:Array Value) (hs:cvs.size=cs.length) (h:∀ j x,cs[j]?=some x→RelV os w Z blk x (cvs.getD j Go.undef)):RelV os w Z blk (.agg cs) (.agg cvs)
  | tup (cs:List AV) (cvs:Array Value) (hs:cvs.size=cs.length) (h:∀ j x,cs[j]?=some x→RelV os w Z blk x (cvs.getD j Go.undef)):RelV os w Z blk (.tup cs) (.tuple cvs)
  | fn (f:FuncId) (cs:List AV) (cvs:Array Value) (hs:cvs.size=cs.length) (h:∀ j x,cs[j]?=some x→RelV os w Z blk x (cvs.getD j Go.undef)) :
      RelV os w Z blk (.fn f cs) (.func (.func f) #[] cvs)
  | ifc (t:TypeId) (v:AV) (cv:Value) (h:RelV os w Z blk v cv):RelV os w Z blk (.ifc t v) (.iface t cv)
  | mref (id b:Nat) (ag:Nat) (L:List (List Int × AV)) (h:os[id]?=some (.mp ag L)) (hb:blk id=some (b,0,0)):RelV os w Z blk (.mref id) (.map (some b))
  | deadM (id:Nat) (cv:Value) (h:os[id]?=some .gone) (h1:cv.oneCell'=true):RelV os w Z blk (.mref id) cv
def ObR (os:List Ob) (w:World) (Z:Nat→Prop) (blk:Blk) (i:Nat):Ob→Prop
  | .gone=>True
  | .var cells=>∃ b cap cur t,blk i=some (b,0,cap)∧w.heap[b]?=some (.cells cur t (0,0))∧cur.size=cells.length ∧
      ∀ c v,cells[c]?=some v→RelV os w Z blk v (cur.getD c Go.undef)
  | .arr sz rows=>0<sz∧(∀ row∈rows,row.length=sz) ∧
      ((blk i=none∧rows=[])∨∃ b o cap cur t,blk i=some (b,o,cap)∧w.heap[b]?=some (.cells cur t (0,0))∧o+cap * sz≤cur.size∧rows.length≤cap∧cap≤maxLen ∧
        ∀ r c v,cellAt rows r c=some v→RelV os w Z blk v (cur.getD (o+(r * sz+c)) Go.undef))
  | .mp ag L=>∃ b,∃ f:Nat→Value,blk i=some (b,0,0)∧w.heap[b]?=some (.map (mkEs (mpE ag f L)) L.length)∧(∀ p∈L,p.1.length=kLen ag)∧∀ (j:Nat) p,L[j]?=some p→RelV os w Z blk p.2 (f j)
structure Cx where
  w:World
  tmps:Array Value
  Z:Nat→Prop
  blk:Blk
def Live (os:List Ob) (i:Nat):Prop:=∃ o,os[i]?=some o∧o≠.gone
def Owned (os:List Ob) (blk:Blk) (b:Nat):Prop:=∃ i o cap,Live os i∧blk i=some (b,o,cap)
structure Sim (σ:St) (γ:Cx):Prop where
  slots:∀ k,RelV σ.objs γ.w γ.Z γ.blk (σ.env k) (γ.tmps.getD k Go.undef)
  obs:∀ (i:Nat) o,σ.objs[i]?=some o→ObR σ.objs γ.w γ.Z γ.blk i o
  inj:∀ i j b o c o' c',Live σ.objs i→Live σ.objs j→γ.blk i=some (b,o,c)→γ.blk j=some (b,o',c')→i=j
  nz:∀ b,Owned σ.objs γ.blk b→¬ γ.Z b
  zlt:∀ b,γ.Z b→b<γ.w.heap.size
def Ob.like:Ob→Ob→Prop
  | .var a,.var b=>a.length=b.length
  | .arr s a,.arr s' b=>s=s'∧a.length=b.length
  | .mp a _,.mp b _=>a=b
  | _,_=>False
theorem Ob.like_refl {o:Ob} (h:o≠.gone):o.like o:=by
  cases o<;>simp_all [Ob.like]
theorem Ob.like_trans {a b c:Ob} (h:a.like b) (k:b.like c):a.like c:=by
  cases a<;>cases b<;>cases c<;>simp_all [Ob.like]
theorem Ob.like_live {a b:Ob} (h:a.like b):a≠.gone∧b≠.gone:=by
  cases a<;>cases b<;>simp_all [Ob.like]
structure Fr (os₀:List Ob) (γ₀:Cx) (os:List Ob) (γ:Cx):Prop where
  eos:γ.w.os=γ₀.w.os
  tape:γ.w.tape=γ₀.w.tape
  output:γ.w.output=γ₀.w.output
  size:γ₀.w.heap.size≤γ.w.heap.size
  keep:∀ b,b<γ₀.w.heap.size→¬ Owned os₀ γ₀.blk b→γ.w.heap[b]?=γ₀.w.heap[b]?
  z0:∀ b,γ₀.Z b→γ.Z b
  z1:∀ b,γ.Z b→γ₀.Z b∨Owned os₀ γ₀.blk b∨γ₀.w.heap.size≤b
  own:∀ b,Owned os γ.blk b→Owned os₀ γ₀.blk b∨γ₀.w.heap.size≤b
  len:os₀.length≤os.length
  old:∀ i,i<os₀.length→Live os i→γ.blk i=γ₀.blk i∧∃ o o',os₀[i]?=some o∧os[i]?=some o'∧o.like o'
theorem Fr.refl (os:List Ob) (γ:Cx):Fr os γ os γ :=
  ⟨rfl,rfl,rfl,Nat.le_refl _,fun _ _ _=>rfl,fun _ h=>h,fun _ h=>.inl h,fun _ h=>.inl h,Nat.le_refl _,fun _ _ ⟨o,ho,hg⟩=>⟨rfl,o,o,ho,ho,Ob.like_refl hg⟩⟩
theorem Fr.trans {a b c:List Ob} {x y z:Cx} (h:Fr a x b y) (k:Fr b y c z):Fr a x c z where
  eos:=k.eos.trans h.eos
  tape:=k.tape.trans h.tape
  output:=k.output.trans h.output
  size:=Nat.le_trans h.size k.size
  keep:=fun n hn ho=>(k.keep n (Nat.lt_of_lt_of_le hn h.size) (fun hw=>(h.own n hw).elim ho (fun hl=>by omega))).trans (h.keep n hn ho)
  z0:=fun n hn=>k.z0 n (h.z0 n hn)
  z1:=fun n hn=>by
    rcases k.z1 n hn with h1 | h1 | h1
    · exact h.z1 n h1
    · rcases h.own n h1 with h2 | h2
      · exact .inr (.inl h2)
      · exact .inr (.inr h2)
    · exact .inr (.inr (Nat.le_trans h.size h1))
  own:=fun n hn=>by
    rcases k.own n hn with h1 | h1
    · exact h.own n h1
    · exact .inr (Nat.le_trans h.size h1)
  len:=Nat.le_trans h.len k.len
  old:=fun i hi hl=>by
    obtain ⟨h1,o,o',ho,ho',hk⟩:=k.old i (Nat.lt_of_lt_of_le hi h.len) hl
    obtain ⟨h3,x,x',hx,hx',hk'⟩:=h.old i hi ⟨o,ho,(Ob.like_live hk).1⟩
    rw[ho] at hx'
    simp at hx'
    subst hx'
    exact⟨h1.trans h3,x,o',hx,ho',Ob.like_trans hk' hk⟩
theorem cell?_eq_of_heap {w w':World} {b o:Nat} (h:w'.heap[b]?=w.heap[b]?):w'.cell? ⟨b,o,none⟩=w.cell? ⟨b,o,none⟩:=by
  simp[World.cell?,h]
theorem TreeR.mono {w w':World} {Z Z':Nat→Prop} {v:AV} {cv:Value} (h:TreeR w Z v cv) (hz:∀ b,Z b→Z' b∧w'.heap[b]?=w.heap[b]?):TreeR w' Z' v cv:=by
  induction h with
  | lit v=>exact .lit v
  | nil sz cap a=>exact .nil sz cap a
  | tree sz rows b o cap f hzb hr hcap hc _ ih =>
    exact .tree sz rows b o cap f (hz b hzb).1 hr hcap (fun r c x hx=>by rw[cell?_eq_of_heap (hz b hzb).2];exact hc r c x hx) ih
theorem RelV.mono {os os':List Ob} {w w':World} {Z Z':Nat→Prop} {blk blk':Blk} {v:AV} {cv:Value} (h:RelV os w Z blk v cv)
    (hz:∀ b,Z b→Z' b∧w'.heap[b]?=w.heap[b]?)
    (ho:∀ i o,os[i]?=some o→os'[i]?=some .gone∨(blk' i=blk i∧∃ o',os'[i]?=some o'∧o.like o')):RelV os' w' Z' blk' v cv:=by
  induction h with
  | undef cv=>exact .undef cv
  | frz v cv h=>exact .frz v cv (h.mono hz)
  | taddr cells b o f hzb hc ht =>
    exact .taddr cells b o f (hz b hzb).1 (fun j x hx=>by rw[cell?_eq_of_heap (hz b hzb).2];exact hc j x hx) (fun j x hx=>(ht j x hx).mono hz)
  | deadRef id sz off len cv h h1 =>
    rcases ho id _ h with h' | ⟨_,o',_,hl⟩
    · exact .deadRef id sz off len cv h' h1
    · exact absurd hl (by simp[Ob.like])
  | deadPtr id r c cv h h1 =>
    rcases ho id _ h with h' | ⟨_,o',_,hl⟩
    · exact .deadPtr id r c cv h' h1
    · exact absurd hl (by simp[Ob.like])
  | ref id sz off len b o cap cap' rows h hb hl hc hlc =>
    rcases ho id _ h with h' | ⟨hbk,o',ho',hk⟩
    · exact .deadRef _ _ _ _ _ h' rfl
    · cases o'<;>simp[Ob.like] at hk
      obtain ⟨rfl,hk⟩:=hk
      exact .ref id sz off len b o cap cap' _ ho' (hbk.trans hb) (by omega) hc hlc
  | refNil id sz h hb =>
    rcases ho id _ h with h' | ⟨hbk,o',ho',hk⟩
    · exact .deadRef _ _ _ _ _ h' rfl
    · cases o'<;>simp[Ob.like] at hk
      obtain ⟨rfl,hk⟩:=hk
      have hk':=List.eq_nil_of_length_eq_zero hk.symm
      subst hk'
      exact .refNil id sz ho' (hbk.trans hb)
  | refEnd id sz off b x bo rows h hb hl =>
    rcases ho id _ h with h' | ⟨hbk,o',ho',hk⟩
    · exact .deadRef _ _ _ _ _ h' rfl
    · cases o'<;>simp[Ob.like] at hk
      obtain ⟨rfl,hk⟩:=hk
      exact .refEnd id sz off b x bo _ ho' (hbk.trans hb) (by omega)
  | ptrV id c b cap cells h hb =>
    rcases ho id _ h with h' | ⟨hbk,o',ho',hk⟩
    · exact .deadPtr _ _ _ _ h' rfl
    · cases o'<;>simp[Ob.like] at hk
      exact .ptrV id c b cap _ ho' (hbk.trans hb)
  | ptrA id r c sz b o cap rows h hb =>
    rcases ho id _ h with h' | ⟨hbk,o',ho',hk⟩
    · exact .deadPtr _ _ _ _ h' rfl
    · cases o'<;>simp[Ob.like] at hk
      obtain ⟨rfl,hk⟩:=hk
      exact .ptrA id r c sz b o cap _ ho' (hbk.trans hb)
  | agg cs cvs hs _ ih=>exact .agg cs cvs hs ih
  | tup cs cvs hs _ ih=>exact .tup cs cvs hs ih
  | fn f cs cvs hs _ ih=>exact .fn f cs cvs hs ih
  | ifc t v cv _ ih=>exact .ifc t v cv ih
  | mref id b ag L h hb =>
    rcases ho id _ h with h' | ⟨hbk,o',ho',hk⟩
    · exact .deadM _ _ h' rfl
    · cases o'<;>simp[Ob.like] at hk
      subst hk
      exact .mref id b _ _ ho' (hbk.trans hb)
  | deadM id cv h h1 =>
    rcases ho id _ h with h' | ⟨_,o',ho',hk⟩
    · exact .deadM _ _ h' h1
    · cases o'<;>simp[Ob.like] at hk
theorem Live.lt {os:List Ob} {i:Nat} (h:Live os i):i<os.length:=by
  obtain ⟨o,ho,_⟩:=h
  exact (List.getElem?_eq_some_iff.1 ho).1
theorem RelV.same {os:List Ob} {w w':World} {Z:Nat→Prop} {blk:Blk} {v:AV} {cv:Value} (h:RelV os w Z blk v cv) (hw:w'.heap=w.heap):RelV os w' Z blk v cv :=
  h.mono (fun b hb=>⟨hb,by rw[hw]⟩) (fun i o ho=>by
    by_cases hg:o=.gone
    · subst hg;exact .inl ho
    · exact .inr ⟨rfl,o,ho,Ob.like_refl hg⟩)
theorem ObR.mono {os os':List Ob} {w w':World} {Z Z':Nat→Prop} {blk blk':Blk} {i:Nat} {o:Ob} (h:ObR os w Z blk i o)
    (hR:∀ v cv,RelV os w Z blk v cv→RelV os' w' Z' blk' v cv) (hb:blk' i=blk i)
    (hk:∀ b o c,blk i=some (b,o,c)→w'.heap[b]?=w.heap[b]?):ObR os' w' Z' blk' i o:=by
  cases o with
  | gone=>trivial
  | var cells =>
    obtain ⟨b,cap,cur,t,h1,h2,h3,h4⟩:=h
    exact⟨b,cap,cur,t,hb.trans h1,(hk _ _ _ h1).trans h2,h3,fun c v hv=>hR _ _ (h4 c v hv)⟩
  | arr sz rows =>
    obtain ⟨h0,hr,h⟩:=h
    refine⟨h0,hr,?_⟩
    rcases h with ⟨h1,h2⟩ | ⟨b,o,cap,cur,t,h1,h2,h3,h4,h5,h6⟩
    · exact .inl ⟨hb.trans h1,h2⟩
    · exact .inr ⟨b,o,cap,cur,t,hb.trans h1,(hk _ _ _ h1).trans h2,h3,h4,h5,fun r c v hv=>hR _ _ (h6 r c v hv)⟩
  | mp ag L =>
    obtain ⟨b,f,h1,h2,h3,h4⟩:=h
    exact⟨b,f,hb.trans h1,(hk _ _ _ h1).trans h2,h3,fun j p hp=>hR _ _ (h4 j p hp)⟩
theorem Sim.put {σ:St} {γ:Cx} (h:Sim σ γ) (d:Nat) (hd:d<γ.tmps.size) {v:AV} {cv:Value} (hv:RelV σ.objs γ.w γ.Z γ.blk v cv) :
    Sim { σ with env:=upd σ.env d v } { γ with tmps:=γ.tmps.setIfInBounds d cv } where
  slots:=fun k=>by
    simp only[upd]
    by_cases hk:k=d
    · subst hk
      simp[Array.getD_eq_getD_getElem?,hd]
      exact hv
    · simp only[hk,if_false,Array.getD_eq_getD_getElem?,Array.getElem?_setIfInBounds_ne (Ne.symm hk)]
      have:=h.slots k
      simpa [Array.getD_eq_getD_getElem?] using this
  obs:=h.obs
  inj:=h.inj
  nz:=h.nz
  zlt:=h.zlt
theorem Sim.sameHeap {σ:St} {γ:Cx} (h:Sim σ γ) {w':World} (hw:w'.heap=γ.w.heap):Sim σ { γ with w:=w' } where
  slots:=fun k=>(h.slots k).same hw
  obs:=fun i o ho=>(h.obs i o ho).mono (fun v cv hv=>hv.same hw) rfl (fun b _ _ _=>by rw[hw])
  inj:=h.inj
  nz:=h.nz
  zlt:=fun b hb=>by have:=h.zlt b hb;simpa [hw] using this
theorem Fr.sameHeap {a b:List Ob} {x y:Cx} (h:Fr a x b y) {w':World} (hw:w'.heap=y.w.heap) (h1:w'.os=y.w.os) (h2:w'.tape=y.w.tape) (h3:w'.output=y.w.output) :
    Fr a x b { y with w:=w' } :=
  h.trans ⟨h1,h2,h3,by simp[hw],fun _ _ _=>by simp[hw],fun _ h=>h,fun _ h=>.inl h,fun _ h=>.inl h,Nat.le_refl _,fun _ _ ⟨o,ho,hg⟩=>⟨rfl,o,o,ho,ho,Ob.like_refl hg⟩⟩
theorem Fr.put {a b:List Ob} {x y:Cx} (h:Fr a x b y) (t:Array Value):Fr a x b { y with tmps:=t }:=⟨h.eos,h.tape,h.output,h.size,h.keep,h.z0,h.z1,h.own,h.len,h.old⟩
def updB (blk:Blk) (n:Nat) (x:Option (Nat × Nat × Nat)):Blk:=fun i=>if i=n then x else blk i
def ObNew (os:List Ob) (w:World) (Z:Nat→Prop) (blk:Blk) (o cap:Nat) (cur:Array Value):Ob→Prop
  | .gone=>True
  | .var cells=>o=0∧cur.size=cells.length∧∀ c v,cells[c]?=some v→RelV os w Z blk v (cur.getD c Go.undef)
  | .arr sz rows=>0<sz∧(∀ row∈rows,row.length=sz)∧o+cap * sz≤cur.size∧rows.length≤cap∧cap≤maxLen ∧
        ∀ r c v,cellAt rows r c=some v→RelV os w Z blk v (cur.getD (o+(r * sz+c)) Go.undef)
  | .mp _ _=>False
theorem ObNew.obR {os os':List Ob} {w w':World} {Z Z':Nat→Prop} {blk blk':Blk} {i b o cap:Nat} {cur:Array Value} {t:TypeId} {ob:Ob} (h:ObNew os w Z blk o cap cur ob)
    (hR:∀ v cv,RelV os w Z blk v cv→RelV os' w' Z' blk' v cv) (hb:blk' i=some (b,o,cap)) (hk:w'.heap[b]?=some (.cells cur t (0,0))):ObR os' w' Z' blk' i ob:=by
  cases ob with
  | gone=>trivial
  | var cells =>
    obtain ⟨h0,h1,h2⟩:=h
    subst h0
    exact⟨b,cap,cur,t,hb,hk,h1,fun c v hv=>hR _ _ (h2 c v hv)⟩
  | arr sz rows =>
    obtain ⟨h0,h1,h2,h3,h4,h5⟩:=h
    exact⟨h0,h1,.inr ⟨b,o,cap,cur,t,hb,hk,h2,h3,h4,fun r c v hv=>hR _ _ (h5 r c v hv)⟩⟩
  | mp ag L=>exact h.elim
theorem Sim.pushX {σ:St} {γ:Cx} (h:Sim σ γ) {w':World} {x:Obj} {cap:Nat} {ob:Ob}
    (hw:w'.heap=γ.w.heap.push x) (hob:∀ os' w' blk',(∀ v cv,RelV σ.objs γ.w γ.Z γ.blk v cv→RelV os' w' γ.Z blk' v cv)→blk' σ.objs.length=some (γ.w.heap.size,0,cap)→w'.heap[γ.w.heap.size]?=some x→ObR os' w' γ.Z blk' σ.objs.length ob) :
    Sim { σ with objs:=σ.objs++[ob] } { γ with w:=w',blk:=updB γ.blk σ.objs.length (some (γ.w.heap.size,0,cap)) }:=by
  have hlt:∀ b,b<γ.w.heap.size→w'.heap[b]?=γ.w.heap[b]?:=fun b hb=>by
    rw[hw,Array.getElem?_push,if_neg (by omega)]
  have hR:∀ v cv,RelV σ.objs γ.w γ.Z γ.blk v cv→RelV (σ.objs++[ob]) w' γ.Z (updB γ.blk σ.objs.length (some (γ.w.heap.size,0,cap))) v cv:=fun v cv hv =>
    hv.mono (fun b hb=>⟨hb,hlt b (h.zlt b hb)⟩) (fun i o ho=>by
      have hi:i<σ.objs.length:=(List.getElem?_eq_some_iff.1 ho).1
      have ho':(σ.objs++[ob])[i]?=some o:=by rw[List.getElem?_append_left hi];exact ho
      by_cases hgo:o=.gone
      · subst hgo;exact .inl ho'
      · exact .inr ⟨by simp[updB,Nat.ne_of_lt hi],o,ho',Ob.like_refl hgo⟩)
  have hlive:∀ i,Live (σ.objs++[ob]) i→i=σ.objs.length∨Live σ.objs i:=by
    rintro i ⟨o,ho,hgo⟩
    rcases Nat.lt_or_ge i σ.objs.length with hi | hi
    · rw[List.getElem?_append_left hi] at ho
      exact .inr ⟨o,ho,hgo⟩
    · left
      have:=(List.getElem?_eq_some_iff.1 ho).1
      simp at this
      omega
  have hblt:∀ i b o c,Live σ.objs i→γ.blk i=some (b,o,c)→b<γ.w.heap.size:=by
    rintro i b o c ⟨x,hx,hgx⟩ hb
    have:=h.obs i x hx
    cases x with
    | gone=>exact absurd rfl hgx
    | var cells =>
      obtain ⟨b',cap',cur',t',h1,h2,_⟩:=this
      rw[hb] at h1;simp at h1
      obtain ⟨rfl,_⟩:=h1
      exact (Array.getElem?_eq_some_iff.1 h2).1
    | arr sz rows =>
      obtain ⟨_,_,⟨h1,_⟩ | ⟨b',o',cap',cur',t',h1,h2,_⟩⟩:=this
      · rw[hb] at h1;simp at h1
      · rw[hb] at h1;simp at h1
        obtain ⟨rfl,_⟩:=h1
        exact (Array.getElem?_eq_some_iff.1 h2).1
    | mp ag L =>
      obtain ⟨b',f',h1,h2,_⟩:=this
      rw[hb] at h1;simp at h1
      obtain ⟨rfl,_⟩:=h1
      exact (Array.getElem?_eq_some_iff.1 h2).1
  refine⟨fun k=>hR _ _ (h.slots k),?_,?_,?_,?_⟩
  · intro i o ho
    rcases Nat.lt_or_ge i σ.objs.length with hi | hi
    · have ho':σ.objs[i]?=some o:=by rw[List.getElem?_append_left hi] at ho;exact ho
      by_cases hgo:o=.gone
      · subst hgo;trivial
      · refine (h.obs i o ho').mono hR (by simp[updB,Nat.ne_of_lt hi]) (fun b x c hb=>hlt b (hblt i b x c ⟨o,ho',hgo⟩ hb))
    · have hi':i=σ.objs.length:=by
        have:=(List.getElem?_eq_some_iff.1 ho).1
        simp at this
        omega
      subst hi'
      simp at ho
      subst ho
      exact hob _ _ _ hR (by simp[updB]) (by rw[hw];simp)
  · intro i j b o c o' c' hi hj hbi hbj
    simp only[updB] at hbi hbj
    rcases hlive i hi with rfl | hi'<;>rcases hlive j hj with rfl | hj'
    · rfl
    · rw[if_pos rfl] at hbi
      rw[if_neg (Nat.ne_of_lt hj'.lt)] at hbj
      have:=hblt _ _ _ _ hj' hbj
      simp at hbi
      omega
    · rw[if_pos rfl] at hbj
      rw[if_neg (Nat.ne_of_lt hi'.lt)] at hbi
      have:=hblt _ _ _ _ hi' hbi
      simp at hbj
      omega
    · rw[if_neg (Nat.ne_of_lt hj'.lt)] at hbj
      rw[if_neg (Nat.ne_of_lt hi'.lt)] at hbi
      exact h.inj i j b o c o' c' hi' hj' hbi hbj
  · rintro b ⟨i,o,c,hi,hb⟩ hz
    simp only[updB] at hb
    rcases hlive i hi with rfl | hi'
    · rw[if_pos rfl] at hb
      simp at hb
      have:=h.zlt b hz
      omega
    · rw[if_neg (Nat.ne_of_lt hi'.lt)] at hb
      exact h.nz b ⟨i,o,c,hi',hb⟩ hz
  · intro b hb
    have:=h.zlt b hb
    rw[hw];simp;omega
theorem Sim.push {σ:St} {γ:Cx} (h:Sim σ γ) {w':World} {cur:Array Value} {t:TypeId} {cap:Nat} {ob:Ob}
    (hw:w'.heap=γ.w.heap.push (.cells cur t (0,0))) (hob:ObNew σ.objs γ.w γ.Z γ.blk 0 cap cur ob) :
    Sim { σ with objs:=σ.objs++[ob] } { γ with w:=w',blk:=updB γ.blk σ.objs.length (some (γ.w.heap.size,0,cap)) } :=
  h.pushX hw fun _ _ _ hR hb hk=>hob.obR hR hb hk
theorem Sim.blt {σ:St} {γ:Cx} (h:Sim σ γ) {i b o c:Nat} (hl:Live σ.objs i) (hb:γ.blk i=some (b,o,c)):b<γ.w.heap.size:=by
  obtain ⟨x,hx,hgx⟩:=hl
  have:=h.obs i x hx
  cases x with
  | gone=>exact absurd rfl hgx
  | var cells =>
    obtain ⟨b',cap',cur',t',h1,h2,_⟩:=this
    rw[hb] at h1;simp at h1
    obtain ⟨rfl,_⟩:=h1
    exact (Array.getElem?_eq_some_iff.1 h2).1
  | arr sz rows =>
    obtain ⟨_,_,⟨h1,_⟩ | ⟨b',o',cap',cur',t',h1,h2,_⟩⟩:=this
    · rw[hb] at h1;simp at h1
    · rw[hb] at h1;simp at h1
      obtain ⟨rfl,_⟩:=h1
      exact (Array.getElem?_eq_some_iff.1 h2).1
  | mp ag L =>
    obtain ⟨b',f',h1,h2,_⟩:=this
    rw[hb] at h1;simp at h1
    obtain ⟨rfl,_⟩:=h1
    exact (Array.getElem?_eq_some_iff.1 h2).1
theorem Fr.pushX {σ:St} {γ:Cx} {w':World} {x0:Obj} {cap:Nat} (ob:Ob)
    (hw:w'.heap=γ.w.heap.push x0) (h1:w'.os=γ.w.os) (h2:w'.tape=γ.w.tape) (h3:w'.output=γ.w.output) :
    Fr σ.objs γ (σ.objs++[ob]) { γ with w:=w',blk:=updB γ.blk σ.objs.length (some (γ.w.heap.size,0,cap)) } where
  eos:=h1
  tape:=h2
  output:=h3
  size:=by rw[hw];simp
  keep:=fun b hb _=>by simp only[hw,Array.getElem?_push];rw[if_neg (by omega)]
  z0:=fun _ h=>h
  z1:=fun _ h=>.inl h
  own:=by
    rintro b ⟨i,o,c,⟨x,hx,hgx⟩,hb⟩
    simp only[updB] at hb
    split at hb
    · simp at hb;right;omega
    · rename_i hne
      have hi:i<σ.objs.length:=by have:=(List.getElem?_eq_some_iff.1 hx).1;simp at this;omega
      rw[List.getElem?_append_left hi] at hx
      exact .inl ⟨i,o,c,⟨x,hx,hgx⟩,hb⟩
  len:=by simp
  old:=by
    rintro i hi ⟨x,hx,hgx⟩
    have hx0:=hx
    rw[List.getElem?_append_left hi] at hx
    exact⟨by simp[updB,Nat.ne_of_lt hi],x,x,hx,hx0,Ob.like_refl hgx⟩
theorem Fr.push {σ:St} {γ:Cx} {w':World} {cur:Array Value} {t:TypeId} {cap:Nat} (ob:Ob)
    (hw:w'.heap=γ.w.heap.push (.cells cur t (0,0))) (h1:w'.os=γ.w.os) (h2:w'.tape=γ.w.tape) (h3:w'.output=γ.w.output) :
    Fr σ.objs γ (σ.objs++[ob]) { γ with w:=w',blk:=updB γ.blk σ.objs.length (some (γ.w.heap.size,0,cap)) }:=Fr.pushX ob hw h1 h2 h3
theorem Sim.kill {σ:St} {γ:Cx} (h:Sim σ γ) (id:Nat):Sim { σ with objs:=σ.objs.set id .gone } γ:=by
  have hR:∀ v cv,RelV σ.objs γ.w γ.Z γ.blk v cv→RelV (σ.objs.set id .gone) γ.w γ.Z γ.blk v cv:=fun v cv hv =>
    hv.mono (fun b hb=>⟨hb,rfl⟩) (fun i o ho=>by
      have hi:i<σ.objs.length:=(List.getElem?_eq_some_iff.1 ho).1
      rw[List.getElem?_set]
      by_cases hii:id=i
      · left;simp[hii,hi]
      · rw[if_neg hii]
        by_cases hgo:o=.gone
        · subst hgo;exact .inl ho
        · exact .inr ⟨rfl,o,ho,Ob.like_refl hgo⟩)
  have hlive:∀ i,Live (σ.objs.set id .gone) i→Live σ.objs i:=by
    rintro i ⟨o,ho,hgo⟩
    rw[List.getElem?_set] at ho
    split at ho
    · split at ho<;>simp at ho;exact absurd ho.symm hgo
    · exact⟨o,ho,hgo⟩
  refine⟨fun k=>hR _ _ (h.slots k),?_,fun i j b o c o' c' hi hj=>h.inj i j b o c o' c' (hlive i hi) (hlive j hj),?_,h.zlt⟩
  · intro i o ho
    rw[List.getElem?_set] at ho
    split at ho
    · split at ho<;>simp at ho
      subst ho
      trivial
    · exact (h.obs i o ho).mono hR rfl (fun _ _ _ _=>rfl)
  · rintro b ⟨i,o,c,hi,hb⟩
    exact h.nz b ⟨i,o,c,hlive i hi,hb⟩
theorem Fr.kill (os:List Ob) (γ:Cx) (id:Nat):Fr os γ (os.set id .gone) γ where
  eos:=rfl
  tape:=rfl
  output:=rfl
  size:=Nat.le_refl _
  keep:=fun _ _ _=>rfl
  z0:=fun _ h=>h
  z1:=fun _ h=>.inl h
  own:=by
    rintro b ⟨i,o,c,⟨x,hx,hgx⟩,hb⟩
    rw[List.getElem?_set] at hx
    split at hx
    · split at hx<;>simp at hx;exact absurd hx.symm hgx
    · exact .inl ⟨i,o,c,⟨x,hx,hgx⟩,hb⟩
  len:=by simp
  old:=by
    rintro i hi ⟨x,hx,hgx⟩
    have hx0:=hx
    rw[List.getElem?_set] at hx
    split at hx
    · split at hx<;>simp at hx;exact absurd hx.symm hgx
    · exact⟨rfl,x,x,hx,hx0,Ob.like_refl hgx⟩
theorem Sim.writeX {σ:St} {γ:Cx} (h:Sim σ γ) {id:Nat} {ob ob':Ob} (ho:σ.objs[id]?=some ob) (hg:ob≠.gone) (hlk:ob.like ob') {b o cap:Nat} (hb:γ.blk id=some (b,o,cap))
    {w':World} (hoth:∀ k,k≠b→w'.heap[k]?=γ.w.heap[k]?) (hsz:w'.heap.size=γ.w.heap.size)
    (hob:∀ os',(∀ v cv,RelV σ.objs γ.w γ.Z γ.blk v cv→RelV os' w' γ.Z γ.blk v cv)→ObR os' w' γ.Z γ.blk id ob'):Sim { σ with objs:=σ.objs.set id ob' } { γ with w:=w' }:=by
  have hid:id<σ.objs.length:=(List.getElem?_eq_some_iff.1 ho).1
  have hlv:Live σ.objs id:=⟨ob,ho,hg⟩
  have hg':ob'≠.gone:=by intro e;subst e;cases ob<;>simp[Ob.like] at hlk
  have hR:∀ v cv,RelV σ.objs γ.w γ.Z γ.blk v cv→RelV (σ.objs.set id ob') w' γ.Z γ.blk v cv:=fun v cv hv =>
    hv.mono (fun z hz=>⟨hz,hoth z (fun e=>h.nz b ⟨id,o,cap,hlv,hb⟩ (e ▸ hz))⟩) (fun i x hx=>by
      rw[List.getElem?_set]
      by_cases hii:id=i
      · subst hii
        rw[ho] at hx
        simp at hx
        subst hx
        right
        refine⟨rfl,ob',by simp[hid],hlk⟩
      · rw[if_neg hii]
        by_cases hgo:x=.gone
        · subst hgo;exact .inl hx
        · exact .inr ⟨rfl,x,hx,Ob.like_refl hgo⟩)
  have hlive:∀ i,Live (σ.objs.set id ob') i→Live σ.objs i:=by
    rintro i ⟨x,hx,hgx⟩
    rw[List.getElem?_set] at hx
    split at hx
    · rename_i e;subst e;exact hlv
    · exact⟨x,hx,hgx⟩
  refine⟨fun k=>hR _ _ (h.slots k),?_,fun i j b o c o' c' hi hj=>h.inj i j b o c o' c' (hlive i hi) (hlive j hj),?_,fun z hz=>by rw[hsz];exact h.zlt z hz⟩
  · intro i x hx
    rw[List.getElem?_set] at hx
    by_cases hii:id=i
    · subst hii
      rw[if_pos rfl,if_pos hid] at hx
      simp at hx
      subst hx
      exact hob _ hR
    · rw[if_neg hii] at hx
      by_cases hgo:x=.gone
      · subst hgo;trivial
      · refine (h.obs i x hx).mono hR rfl (fun z y c hz=>hoth z (fun e=>hii ?_))
        subst e
        exact h.inj id i z o cap y c hlv ⟨x,hx,hgo⟩ hb hz
  · rintro z ⟨i,y,c,hi,hz⟩
    exact h.nz z ⟨i,y,c,hlive i hi,hz⟩
theorem Sim.write {σ:St} {γ:Cx} (h:Sim σ γ) {id:Nat} {ob ob':Ob} (ho:σ.objs[id]?=some ob) (hg:ob≠.gone) (hlk:ob.like ob') {b o cap:Nat} (hb:γ.blk id=some (b,o,cap))
    {w':World} {cur:Array Value} {t:TypeId} (hw:w'.heap[b]?=some (.cells cur t (0,0))) (hoth:∀ k,k≠b→w'.heap[k]?=γ.w.heap[k]?) (hsz:w'.heap.size=γ.w.heap.size)
    (hob:ObNew σ.objs γ.w γ.Z γ.blk o cap cur ob'):Sim { σ with objs:=σ.objs.set id ob' } { γ with w:=w' } :=
  h.writeX ho hg hlk hb hoth hsz fun _ hR=>hob.obR hR hb hw
theorem Fr.write {σ:St} {γ:Cx} {id:Nat} {ob:Ob} (ob':Ob) (ho:σ.objs[id]?=some ob) (hg:ob≠.gone) (hlk:ob.like ob') {b o cap:Nat} (hb:γ.blk id=some (b,o,cap))
    {w':World} (hoth:∀ k,k≠b→w'.heap[k]?=γ.w.heap[k]?) (hsz:w'.heap.size=γ.w.heap.size) (h1:w'.os=γ.w.os) (h2:w'.tape=γ.w.tape) (h3:w'.output=γ.w.output) :
    Fr σ.objs γ (σ.objs.set id ob') { γ with w:=w' } where
  eos:=h1
  tape:=h2
  output:=h3
  size:=by simp[hsz]
  keep:=fun z _ hno=>hoth z (fun e=>hno ⟨id,o,cap,⟨ob,ho,hg⟩,e ▸ hb⟩)
  z0:=fun _ h=>h
  z1:=fun _ h=>.inl h
  own:=by
    rintro z ⟨i,y,c,⟨x,hx,hgx⟩,hz⟩
    rw[List.getElem?_set] at hx
    split at hx
    · rename_i e;subst e;exact .inl ⟨id,y,c,⟨ob,ho,hg⟩,hz⟩
    · exact .inl ⟨i,y,c,⟨x,hx,hgx⟩,hz⟩
  len:=by simp
  old:=by
    rintro i hi ⟨x,hx,hgx⟩
    have hx0:=hx
    rw[List.getElem?_set] at hx
    split at hx
    · rename_i e;subst e;exact⟨rfl,ob,ob',ho,by rw[List.getElem?_set];simp[hi],hlk⟩
    · exact⟨rfl,x,x,hx,hx0,Ob.like_refl hgx⟩
end Go.Am
namespace Go.Am
structure Ty where
  kind:Nat
  size:Nat
  bytes:Nat
  elem:Nat
  len:Nat
  zero:Option (List Value)
  flds:List (Nat × Nat × Nat)
def sizeT (P:Program) (t:TypeId):Nat:=match P.info? t with | some i=>i.size | none=>0
def ty (P:Program) (t:TypeId):Ty :=
  match P.info? t,P.underlying t with
  | some i,some d =>
    let base:Ty:={ kind:=0,size:=i.size,bytes:=i.bytes,elem:=0,len:=0,zero:=i.zero.map (·.cells.toList),flds:=[] }
    match d with
    | .slice e=>{ base with kind:=1,elem:=e }
    | .array n e=>{ base with kind:=2,elem:=e,len:=n }
    | .struct fs=>{ base with kind:=3,flds:=fs.toList.map fun f=>(f.offset,f.type,sizeT P f.type) }
    | .string=>{ base with kind:=4 }
    | .int _=>{ base with kind:=5 }
    | .bool=>{ base with kind:=6 }
    | .pointer e=>{ base with kind:=7,elem:=e }
    | .map _ e=>{ base with kind:=8,elem:=e }
    | .func _ _ _=>{ base with kind:=9 }
    | _=>base
  | _,_=>{ kind:=99,size:=0,bytes:=0,elem:=0,len:=0,zero:=none,flds:=[] }
def Ty.isAgg (t:Ty):Bool:=t.kind == 2 || t.kind == 3
theorem ty_info {P:Program} {t:TypeId} (h:(ty P t).kind≠99) :∃i d,P.info? t=some i∧P.underlying t=some d∧(ty P t).size=i.size∧(ty P t).bytes=i.bytes∧(ty P t).zero=i.zero.map (·.cells.toList):=by
  unfold ty at h ⊢
  cases hi:P.info? t with
  | none=>simp[hi] at h
  | some i =>
    cases hd:P.underlying t with
    | none=>simp[hi,hd] at h
    | some d =>
      refine⟨i,d,rfl,rfl,?_,?_,?_⟩<;>cases d<;>rfl
theorem ty_slice {P:Program} {t:TypeId} (h:(ty P t).kind=1):P.underlying t=some (.slice (ty P t).elem):=by
  unfold ty at h ⊢
  cases hi:P.info? t<;>cases hd:P.underlying t<;>simp[hi,hd] at h ⊢
  rename_i i d
  cases d<;>simp at h ⊢
theorem ty_array {P:Program} {t:TypeId} (h:(ty P t).kind=2):P.underlying t=some (.array (ty P t).len (ty P t).elem):=by
  unfold ty at h ⊢
  cases hi:P.info? t<;>cases hd:P.underlying t<;>simp[hi,hd] at h ⊢
  rename_i i d
  cases d<;>simp at h ⊢
theorem ty_struct {P:Program} {t:TypeId} (h:(ty P t).kind=3) :∃fs,P.underlying t=some (.struct fs)∧(ty P t).flds=fs.toList.map fun f=>(f.offset,f.type,sizeT P f.type):=by
  unfold ty at h ⊢
  cases hi:P.info? t<;>cases hd:P.underlying t<;>simp[hi,hd] at h ⊢
  rename_i i d
  cases d<;>simp at h ⊢
theorem ty_bool {P:Program} {t:TypeId} (h:(ty P t).kind=6):P.underlying t=some .bool:=by
  unfold ty at h
  cases hi:P.info? t<;>cases hd:P.underlying t<;>simp[hi,hd] at h ⊢
  rename_i i d
  cases d<;>simp at h ⊢
def litOf:Value→AV
  | .agg cs=>.agg (cs.toList.map .lit)
  | v=>.lit v
def ev (σ:St):Operand→AV
  | .tmp t=>σ.env t
  | .const v=>litOf v
  | .func f=>.fn f []
  | .global _=>.undef
def St.put (σ:St) (dst:Option Tmp) (v:AV):St :=
  match dst with
  | some d=>{ σ with env:=upd σ.env d v }
  | none=>σ
def scal:AV→Bool
  | .lit v=>v.oneCell'
  | .tree .. | .taddr _ | .ref .. | .ptr .. | .fn .. | .ifc .. | .mref ..=>true
  | _=>false
def cellsOf:AV→List AV
  | .agg cs=>cs
  | v=>[v]
def setCells (cells:List AV) (c:Nat):List AV→List AV
  | []=>cells
  | v::vs=>setCells (cells.set c v) (c+1) vs
def fillA (place:Nat→Option (Nat × Nat)) (cells:List AV):List (Nat × AV)→Option (List AV)
  | []=>some cells
  | (i,v)::rest =>
    match place i with
    | none=>none
    | some (off,size)=>if (cellsOf v).length=size∧off+size≤cells.length then fillA place (setCells cells off (cellsOf v)) rest else none
def toRows (sz:Nat):Nat→List AV→List (List AV)
  | 0,_=>[]
  | n+1,cs=>cs.take sz::toRows sz n (cs.drop sz)
def rowOf (σ:St) (id r:Nat):Option (List AV) :=
  match σ.objs[id]? with
  | some (.var cells)=>if r=0 then some cells else none
  | some (.arr _ rows)=>rows[r]?
  | _=>none
def setRowOf (σ:St) (id r:Nat) (row:List AV):St :=
  match σ.objs[id]? with
  | some (.var _)=>{ σ with objs:=σ.objs.set id (.var row) }
  | some (.arr sz rows)=>{ σ with objs:=σ.objs.set id (.arr sz (rows.set r row)) }
  | _=>σ
def loadA (t:Ty) (cells:List AV) (c:Nat) (K:AV→Prop):Prop :=
  if t.isAgg then c+t.size≤cells.length∧K (.agg ((cells.drop c).take t.size))
  else match cells[c]? with
    | some v=>K v
    | none=>False
def intsOf:List AV→Option (List Int)
  | []=>some []
  | .lit (.int .i64 a)::r=>(intsOf r).map (a::·)
  | _=>none
def EqT (P:Program) (t:TypeId) (n:Nat):Prop :=
  ∀ (w:World) (as bs:List Int),as.length=n→bs.length=n →
    (Op.equalIn 10000 t (.agg (as.map (Value.int .i64)).toArray) (.agg (bs.map (Value.int .i64)).toArray)).run P w=.ok (decide (as=bs)) w
def andK (k:IntKind) (a b:Int):Int:=k.wrap ((BitVec.ofInt k.bits a &&& BitVec.ofInt k.bits b).toNat)
def andI (a b:Int):Int:=IntKind.i64.wrap ((BitVec.ofInt 64 a &&& BitVec.ofInt 64 b).toNat)
theorem andK_i64 (a b:Int):andK .i64 a b=andI a b:=by unfold andK andI;rfl
def intW (op:BinOp) (k:IntKind) (a b:Int) (K:Value→Prop):Prop :=
  match op with
  | .add=>(k.min≤a+b∧a+b≤k.max)∧K (.int k (a+b))
  | .sub=>(k.min≤a - b∧a - b≤k.max)∧K (.int k (a - b))
  | .mul=>(k.min≤a * b∧a * b≤k.max)∧K (.int k (a * b))
  | .quo=>(0≤a∧0<b∧a≤k.max)∧K (.int k (a / b))
  | .rem=>b≠0∧K (.int k (a.tmod b))
  | .and=>K (.int k (andK k a b))
  | .shr=>(0≤b∧b.toNat≤k.bits)∧K (.int k (a / 2 ^ b.toNat))
  | .eql=>K (.bool (a == b))
  | .neq=>K (.bool (a != b))
  | .lss=>K (.bool (decide (a<b)))
  | .leq=>K (.bool (decide (a≤b)))
  | .gtr=>K (.bool (decide (a > b)))
  | .geq=>K (.bool (decide (a ≥ b)))
  | _=>False
def pickV (t:Bool):AV→AV→AV
  | .lit (.bool x),.lit (.bool y)=>.lit (.bool (bif t then x else y))
  | a,b=>if t then a else b
def srcRows (σ:St):AV→Option (Nat × List (List AV))
  | .tree sz rows=>some (sz,rows)
  | .ref id sz off len =>
    match σ.objs[id]? with
    | some (.arr sz' rows)=>if sz'=sz then some (sz,(rows.drop off).take len) else none
    | _=>none
  | _=>none
def dstRows (σ:St) (sz:Nat):AV→Option (List (List AV) × St)
  | .lit (.slice none 0 0)=>some ([],σ)
  | .ref id sz' off len =>
    match σ.objs[id]? with
    | some (.arr sz'' rows)=>if sz''=sz'∧sz'=sz then some ((rows.drop off).take len,{ σ with objs:=σ.objs.set id .gone }) else none
    | _=>none
  | _=>none
end Go.Am
namespace Go.Am
variable (P:Program)
def findA (l:List Int):List (List Int × AV)→Nat→Option Nat
  | [],_=>none
  | p::r,i=>if p.1=l then some i else findA l r (i+1)
def getA (l:List Int) (L:List (List Int × AV)):Option AV:=(findA l L 0).bind fun i=>(L[i]?).map (·.2)
def setA (l:List Int) (v:AV) (L:List (List Int × AV)):List (List Int × AV) :=
  match findA l L 0 with
  | some i=>L.set i (l,v)
  | none=>L++[(l,v)]
def idxA (l:List Int) (L:List (List Int × AV)):Nat:=(findA l L 0).getD L.length
def putA (n:Nat) (v:AV) (L:List (List Int × AV)):List (List Int × AV):=L.set n ((L.getD n ([],.undef)).1,v)
def KeyM (P:Program) (t:TypeId) (ag:Nat):Prop:=∃ kt et,P.underlying t=some (.map kt et)∧∀ l:List Int,l.length=kLen ag →
  (∀ e w,(Instr.checkKey e 10000 kt (kV ag l)).run P w=.ok () w)∧(∀ w,(Instr.keyThatStays (kV ag l) (kV ag l)).run P w=.ok (kV ag l) w) ∧
  ∀ (f:Nat→Value) (L:List (List Int × AV)) w,(∀ p∈L,p.1.length=kLen ag)→(Instr.findKey kt (kV ag l) (mkEs (mpE ag f L)).toList).run P w=.ok ((findA l L 0).map fun i=>(i,f i)) w
def zeroV (P:Program) (t:TypeId):Option Value :=
  match P.info? t with
  | some i=>i.zero
  | none=>none
def kAg (P:Program) (t:TypeId):Nat :=
  match P.underlying t with
  | some (.map kt _)=>if (ty P kt).isAgg then (ty P kt).size else 0
  | _=>0
def keyOf:AV→Option (Nat × List Int)
  | .lit (.int .i64 n)=>some (0,[n])
  | .agg cs=>(intsOf cs).map fun l=>(l.length,l)
  | _=>none
def mpOf (σ:St):AV→Option (Nat × Nat × List (List Int × AV))
  | .mref id =>
    match σ.objs[id]? with
    | some (.mp ag L)=>some (id,ag,L)
    | _=>none
  | _=>none
def strB (s:ByteArray) (n:Nat):Int :=
  match s[n]? with
  | some b=>b.toNat
  | none=>0
def ifaceB (P:Program) (t:TypeId):Bool :=
  match P.underlying t with
  | some (.interface _)=>true
  | some _=>false
  | none=>true
def opW (o:Oper) (σ:St) (K:St→Prop):Prop :=
  match o.op with
  | .move x | .assign x=>K (σ.put o.dst (ev σ x))
  | .pick c a b =>
    match ev σ c with
    | .lit (.bool t)=>K (σ.put o.dst (pickV t (ev σ a) (ev σ b)))
    | _=>False
  | .alloc e =>
    (ty P e).kind≠99 ∧
    match (ty P e).zero with
    | some z=>K (({ σ with objs:=σ.objs++[.var (z.map .lit)] }:St).put o.dst (.ptr σ.objs.length 0 0))
    | none=>False
  | .box _ x=>(cellsOf (ev σ x)).all scal=true∧K (({ σ with objs:=σ.objs++[.var (cellsOf (ev σ x))] }:St).put o.dst (.ptr σ.objs.length 0 0))
  | .build t parts =>
    match (ty P t).kind,(ty P t).zero with
    | 3,some z =>
      match fillA (fun i=>((ty P t).flds[i]?).map fun f=>(f.1,f.2.2)) (z.map .lit) (parts.toList.map fun p=>(p.1,ev σ p.2)) with
      | some cs=>((parts.toList.all fun p=>(cellsOf (ev σ p.2)).all scal)=true∧((ty P t).flds.all fun f=>decide (0<f.2.2))=true)∧K (σ.put o.dst (.agg cs))
      | none=>False
    | 2,some z =>
      match fillA (fun i=>some (i * (ty P (ty P t).elem).size,(ty P (ty P t).elem).size)) (z.map .lit) (parts.toList.map fun p=>(p.1,ev σ p.2)) with
      | some cs=>((parts.toList.all fun p=>(cellsOf (ev σ p.2)).all scal)=true∧(ty P (ty P t).elem).kind≠99)∧K (σ.put o.dst (.agg cs))
      | none=>False
    | _,_=>False
  | .buildSlice t len parts =>
    match (ty P t).kind,(ty P (ty P t).elem).zero with
    | 1,some z =>
      match fillA (fun i=>some (i * (ty P (ty P t).elem).size,(ty P (ty P t).elem).size)) ((List.range len).flatMap fun _=>z.map .lit) (parts.toList.map fun p=>(p.1,ev σ p.2)) with
      | some cs=>((ty P (ty P t).elem).kind≠99∧0<(ty P (ty P t).elem).size∧z.length=(ty P (ty P t).elem).size∧len * (ty P (ty P t).elem).size≤16777216∧(parts.toList.all fun p=>(cellsOf (ev σ p.2)).all scal)=true) ∧
          K (({ σ with objs:=σ.objs++[.arr (ty P (ty P t).elem).size (toRows (ty P (ty P t).elem).size len cs)] }:St).put o.dst (.ref σ.objs.length (ty P (ty P t).elem).size 0 len))
      | none=>False
    | _,_=>False
  | .load t a =>
    (ty P t).kind≠99 ∧
    match ev σ a with
    | .ptr id r c =>
      match rowOf σ id r with
      | some row=>loadA (ty P t) row c fun v=>K (σ.put o.dst v)
      | none=>False
    | .taddr cells=>loadA (ty P t) cells 0 fun v=>K (σ.put o.dst v)
    | _=>False
  | .store t a x =>
    (ty P t).kind≠99 ∧
    match ev σ a with
    | .ptr id r c =>
      match rowOf σ id r with
      | some row=>((cellsOf (ev σ x)).length=(ty P t).size∧c+(ty P t).size≤row.length∧(cellsOf (ev σ x)).all scal=true)∧K ((setRowOf σ id r (setCells row c (cellsOf (ev σ x)))).put o.dst .undef)
      | none=>False
    | _=>False
  | .nilCheck x =>
    match ev σ x with
    | .ptr id r c =>
      match σ.objs[id]? with
      | some .gone=>False
      | some _=>K (σ.put o.dst (.ptr id r c))
      | none=>False
    | .taddr cells=>K (σ.put o.dst (.taddr cells))
    | _=>False
  | .binOp op t x y _ =>
    match ev σ x,ev σ y with
    | .lit (.int k a),.lit (.int k' b)=>k=k'∧intW op k a b fun v=>K (σ.put o.dst (.lit v))
    | .lit (.bool a),.lit (.bool b) =>
      (ty P t).kind=6 ∧
      match op with
      | .eql=>K (σ.put o.dst (.lit (.bool (a == b))))
      | .neq=>K (σ.put o.dst (.lit (.bool (a != b))))
      | _=>False
    | .tree _ rows,.lit (.slice none 0 0) =>
      ((ty P t).kind=1∧0<rows.length) ∧
      match op with
      | .eql=>K (σ.put o.dst (.lit (.bool false)))
      | .neq=>K (σ.put o.dst (.lit (.bool true)))
      | _=>False
    | .lit (.slice a _ _),.lit (.slice none 0 0) =>
      (ty P t).kind=1 ∧
      match op with
      | .eql=>K (σ.put o.dst (.lit (.bool a.isNone)))
      | .neq=>K (σ.put o.dst (.lit (.bool (!a.isNone))))
      | _=>False
    | .agg cs,.agg ds =>
      match intsOf cs,intsOf ds with
      | some as,some bs =>
        (EqT P t as.length∧bs.length=as.length∧P.eqGuardType P.depth t=false) ∧
        match op with
        | .eql=>K (σ.put o.dst (.lit (.bool (decide (as=bs)))))
        | .neq=>K (σ.put o.dst (.lit (.bool (!decide (as=bs)))))
        | _=>False
      | _,_=>False
    | _,_=>False
  | .unOp op _ x =>
    match op,ev σ x with
    | .not,.lit (.bool b)=>K (σ.put o.dst (.lit (.bool !b)))
    | .neg,.lit (.int k a)=>(k.min≤-a∧-a≤k.max)∧K (σ.put o.dst (.lit (.int k (-a))))
    | _,_=>False
  | .makeFunc fn first captured =>
    match fn with
    | .func f=>first.size=0∧K (σ.put o.dst (.fn f (captured.toList.map (ev σ))))
    | _=>False
  | .makeSlice t l c =>
    match (ty P t).kind,(ty P (ty P t).elem).zero,ev σ l,ev σ c with
    | 1,some z,.lit (.int k n),.lit (.int k' n') =>
      ((ty P (ty P t).elem).kind≠99∧0<(ty P (ty P t).elem).size∧z.length=(ty P (ty P t).elem).size∧n'=n∧0≤n∧n≤1099511627776∧(ty P (ty P t).elem).bytes≤128∧k=k) ∧
        K (({ σ with objs:=σ.objs++[.arr (ty P (ty P t).elem).size (List.replicate n.toNat (z.map .lit))] }:St).put o.dst (.ref σ.objs.length (ty P (ty P t).elem).size 0 n.toNat))∧k'=k'
    | _,_,_,_=>False
  | .slice t x lo hi mx =>
    (ty P t).kind=1∧(ty P (ty P t).elem).kind≠99∧mx=none ∧
    match ev σ x with
    | .ref id sz off len =>
      match σ.objs[id]? with
      | some (.arr sz' rows) =>
        sz'=sz∧sz=(ty P (ty P t).elem).size ∧
        match lo.map (ev σ),hi.map (ev σ) with
        | none,none=>K (σ.put o.dst (.ref id sz off len))
        | some (.lit (.int _ l)),none=>(0≤l∧l≤len∧rows.length=rows.length)∧K (σ.put o.dst (.ref id sz (off+l.toNat) (len - l.toNat)))
        | none,some (.lit (.int _ h))=>(0≤h∧h≤len)∧K (σ.put o.dst (.ref id sz off h.toNat))
        | some (.lit (.int _ l)),some (.lit (.int _ h))=>(0≤l∧l≤h∧h≤len)∧K (σ.put o.dst (.ref id sz (off+l.toNat) (h.toNat - l.toNat)))
        | _,_=>False
      | _=>False
    | .tree sz rows =>
        (rows≠[]→sz=(ty P (ty P t).elem).size) ∧
        match lo.map (ev σ),hi.map (ev σ) with
        | none,none=>K (σ.put o.dst (.tree sz rows))
        | some (.lit (.int _ l)),none=>(0≤l∧l≤rows.length)∧K (σ.put o.dst (.tree sz (rows.drop l.toNat)))
        | none,some (.lit (.int _ h))=>(0≤h∧h≤rows.length)∧K (σ.put o.dst (.tree sz (rows.take h.toNat)))
        | some (.lit (.int _ l)),some (.lit (.int _ h))=>(0≤l∧l≤h∧h≤rows.length)∧K (σ.put o.dst (.tree sz ((rows.take h.toNat).drop l.toNat)))
        | _,_=>False
    | _=>False
  | .fieldAddr s x f =>
    match (ty P s).kind,(ty P s).flds[f]? with
    | 3,some (off,_,size) =>
      0<size ∧
      match ev σ x with
      | .ptr id r c =>
        match σ.objs[id]? with
        | some .gone=>False
        | some _=>K (σ.put o.dst (.ptr id r (c+off)))
        | none=>False
      | .taddr cells=>K (σ.put o.dst (.taddr (cells.drop off)))
      | _=>False
    | _,_=>False
  | .field s x f =>
    match (ty P s).kind,(ty P s).flds[f]? with
    | 3,some (off,t,size) =>
      (ty P t).kind≠99∧size=(ty P t).size ∧
      match ev σ x with
      | .agg cs=>if (ty P t).isAgg then off+size≤cs.length∧K (σ.put o.dst (.agg ((cs.drop off).take size))) else
          match cs[off]? with
          | some v=>K (σ.put o.dst v)
          | none=>False
      | _=>False
    | _,_=>False
  | .indexAddr t x i =>
    match (ty P t).kind,ev σ x,ev σ i with
    | 1,.ref id sz off len,.lit (.int _ n) =>
      match σ.objs[id]? with
      | some (.arr sz' _)=>(sz'=sz∧sz=(ty P (ty P t).elem).size∧(ty P (ty P t).elem).kind≠99∧0≤n∧n<len)∧K (σ.put o.dst (.ptr id (off+n.toNat) 0))
      | _=>False
    | 1,.tree sz rows,.lit (.int _ n)=>(sz=(ty P (ty P t).elem).size∧(ty P (ty P t).elem).kind≠99∧0≤n∧n<rows.length)∧K (σ.put o.dst (.taddr (rows.getD n.toNat [])))
    | 2,.ptr id r c,.lit (.int _ n) =>
      match σ.objs[id]? with
      | some .gone=>False
      | some _=>((ty P (ty P t).elem).kind≠99∧0≤n∧n<(ty P t).len)∧K (σ.put o.dst (.ptr id r (c+n.toNat * (ty P (ty P t).elem).size)))
      | none=>False
    | _,_,_=>False
  | .makeMap t r=>(r=none∧(ty P t).kind=8)∧K (({ σ with objs:=σ.objs++[.mp (kAg P t) []] }:St).put o.dst (.mref σ.objs.length))
  | .lookup t x i ok =>
    match keyOf (ev σ i),mpOf σ (ev σ x),zeroV P (ty P t).elem with
    | some (ag,l),some (_,ag',L),some z=>(KeyM P t ag∧ag'=ag∧l.length=kLen ag∧(ty P t).kind=8∧ok=false)∧K (σ.put o.dst ((getA l L).getD (.lit z)))
    | _,_,_=>False
  | .mapUpdate t m k x =>
    match keyOf (ev σ k),mpOf σ (ev σ m) with
    | some (ag,l),some (id,ag',L)=>(KeyM P t ag∧ag'=ag∧l.length=kLen ag)∧K (({ σ with objs:=σ.objs.set id (.mp ag (setA l (ev σ x) L)) }:St).put o.dst .undef)
    | _,_=>False
  | .mapEntry t m k =>
    match keyOf (ev σ k),mpOf σ (ev σ m),zeroV P (ty P t).elem with
    | some (ag,l),some (id,ag',L),some z=>(KeyM P t ag∧ag'=ag∧l.length=kLen ag∧(ty P t).kind=8) ∧
      K (({ σ with objs:=σ.objs.set id (.mp ag (setA l ((getA l L).getD (.lit z)) L)) }:St).put o.dst (.tup [(getA l L).getD (.lit z),.lit (.int .i64 (idxA l L:Nat))]))
    | _,_,_=>False
  | .entryStore _ m s x =>
    match ev σ s,mpOf σ (ev σ m) with
    | .lit (.int .i64 n),some (id,ag,L)=>(0≤n∧n<L.length)∧K (({ σ with objs:=σ.objs.set id (.mp ag (putA n.toNat (ev σ x) L)) }:St).put o.dst .undef)
    | _,_=>False
  | .index t x i =>
    match ev σ x,ev σ i with
    | .lit (.string s),.lit (.int _ n)=>(P.underlying t=some .string∧0≤n∧n<s.size)∧K (σ.put o.dst (.lit (.int .u8 (strB s n.toNat))))
    | _,_=>False
  | .makeInterface t x=>ifaceB P t=false∧K (σ.put o.dst (.ifc t (ev σ x)))
  | .typeAssert x _ asserted ok =>
    match ev σ x with
    | .ifc t v=>(ifaceB P asserted=false∧t=asserted∧ok=false)∧K (σ.put o.dst v)
    | _=>False
  | .extract x i =>
    match ev σ x with
    | .tup vs =>
      match vs[i]? with
      | some v=>K (σ.put o.dst v)
      | none=>False
    | _=>False
  | .call { callee:=.builtin .len,args,argTypes } =>
    match args.toList,argTypes.toList with
    | [x],[t] =>
      match ev σ x with
      | .ref id sz _ len =>
        (ty P t).kind=1 ∧
        match σ.objs[id]? with
        | some (.arr sz' _)=>sz'=sz∧K (σ.put o.dst (.lit (.int .i64 len)))
        | _=>False
      | .tree _ rows=>(ty P t).kind=1∧K (σ.put o.dst (.lit (.int .i64 rows.length)))
      | .lit (.slice none 0 0)=>(ty P t).kind=1∧K (σ.put o.dst (.lit (.int .i64 0)))
      | .mref id =>
        (ty P t).kind=8 ∧
        match σ.objs[id]? with
        | some (.mp _ L)=>K (σ.put o.dst (.lit (.int .i64 L.length)))
        | _=>False
      | _=>False
    | _,_=>False
  | .call { callee:=.builtin .append,args,argTypes } =>
    match args.toList,argTypes.toList with
    | [s,x],[t,t'] =>
      match (ty P t).kind,(ty P (ty P t).elem).zero,dstRows σ (ty P (ty P t).elem).size (ev σ s),srcRows σ (ev σ x) with
      | 1,some z,some (pre,σ1),some (sz,src) =>
        (t'=t∧(ty P (ty P t).elem).kind≠99∧sz=(ty P (ty P t).elem).size∧0<sz∧z.length=sz∧pre.length+src.length≤549755813888∧(ty P (ty P t).elem).bytes≤128∧(src.all fun row=>row.all scal)=true) ∧
          K (({ σ1 with objs:=σ1.objs++[.arr sz (pre++src)] }:St).put o.dst (.ref σ1.objs.length sz 0 (pre.length+src.length)))
      | _,_,_,_=>False
    | _,_=>False
  | .call { callee:=.builtin .min,args,argTypes:=_ } =>
    match args.toList with
    | [x,y] =>
      match ev σ x,ev σ y with
      | .lit (.int k a),.lit (.int k' b)=>k=k'∧K (σ.put o.dst (.lit (.int k (min a b))))
      | _,_=>False
    | _=>False
  | .call { callee:=.builtin .max,args,argTypes:=_ } =>
    match args.toList with
    | [x,y] =>
      match ev σ x,ev σ y with
      | .lit (.int k a),.lit (.int k' b)=>k=k'∧K (σ.put o.dst (.lit (.int k (max a b))))
      | _,_=>False
    | _=>False
  | .call { callee:=.builtin .copy,args,argTypes } =>
    match args.toList,argTypes.toList with
    | [s,x],[t,_] =>
      match ev σ s,srcRows σ (ev σ x) with
      | .ref id sz off len,some (sz',src) =>
        match σ.objs[id]? with
        | some (.arr sz'' rows) =>
          ((ty P t).kind=1∧(ty P (ty P t).elem).kind≠99∧sz'=sz∧sz''=sz∧sz=(ty P (ty P t).elem).size∧0<sz∧(src.all fun row=>row.all scal)=true) ∧
            K (({ σ with objs:=σ.objs.set id (.arr sz (rows.take off++src.take (min src.length len)++rows.drop (off+min src.length len))) }:St).put o.dst (.lit (.int .i64 (min src.length len:Nat))))
        | _=>False
      | _,_=>False
    | _,_=>False
  | .convert s d x =>
    match P.underlying d,ev σ x with
    | some (.int k),.lit (.int _ n)=>(P.underlying s).isSome=true∧K (σ.put o.dst (.lit (.int k (k.wrap n))))
    | _,_=>False
  | _=>False
end Go.Am

