import Derived.Orders
import Derived.Laws.AppendOwn
import Derived.Laws.MakeOwn
import Derived.Laws.Slices
import Derived.Laws.Small
set_option linter.unusedVariables false
set_option linter.unusedSimpArgs false
set_option linter.unnecessarySimpa false
set_option linter.unusedSectionVars false
set_option maxHeartbeats 64000000
set_option maxRecDepth 20000
open Nat renaming le_refl→aV,le_trans→tp,lt_of_lt_of_le→G9,ne_of_lt→lY,lt_or_ge→dG
open List renaming getElem?_eq_some_iff→aY,getElem?_append_left→dH,getElem?_set→bO,replicate→aW
open Array renaming getD_eq_getD_getElem?→eY,getElem?_eq_some_iff→pk
namespace Go.Am
inductive AV where
  | undef
  | lit (v:Value)
  | tree (sz:Nat) (rows:List (List AV))
  | dz (cells:List AV)
  | ref (id sz off len:Nat)
  | ptr (id r c:Nat)
  | agg (cs:List AV)
  | bM (vs:List AV)
  | fn (f:FuncId) (bJ:List AV)
  | er (t:TypeId) (v:AV)
  | fL (id:Nat)
  deriving Inhabited
inductive Ob where
  | gone
  | var (cells:List AV)
  | arr (sz:Nat) (rows:List (List AV))
  | mp (ag:Nat) (L:List (List Int × AV))
  deriving Inhabited
structure St where
  env:Nat→AV
  aa:List Ob
def jG (e:Nat→AV) (d:Nat) (v:AV):Nat→AV:=fun k=>if k=d then v else e k
def cellAt (rows:List (List AV)) (r c:Nat):Option AV:=(rows[r]?).bind (·[c]?)
def gn (iN:List (Value × Value)):Array MapEntry:=(iN.mapIdx fun i p=>(⟨p.1,p.2,i⟩:MapEntry)).toArray
def kV (ag:Nat) (l:List Int):Value:=if ag=0 then .int .i64 (l.headD 0) else .agg (l.map fun n=>.int .i64 n).toArray
def jF (ag:Nat):Nat:=if ag=0 then 1 else ag
def dC (ag:Nat) (f:Nat→Value) (L:List (List Int × AV)):List (Value × Value):=L.mapIdx fun j p=>(kV ag p.1,f j)
theorem HJ (ag:Nat) (f:Nat→Value) (g:AV→AV) (L:List (List Int × AV)):dC ag f (L.map fun p=>(p.1,g p.2))=dC ag f L:=by
  unfold dC
  apply List.ext_getElem
  · simp
  · intros;simp
abbrev gG:=Nat→Option (Nat × Nat × Nat)
inductive gD (w:World) (Z:Nat→Prop):AV→Value→Prop where
  | lit (v:Value):gD w Z (.lit v) v
  | nil (sz cap:Nat) (a:Option Addr):gD w Z (.tree sz []) (.slice a 0 cap)
  | tree (sz:Nat) (rows:List (List AV)) (b o cap:Nat) (f:Nat→Nat→Value) (hz:Z b) (hr:∀ row∈rows,row.length=sz) (Cd:rows.length≤cap)
      (hc:∀ r c x,cellAt rows r c=some x→w.cell? ⟨b,o+(r * sz+c),none⟩=some (f r c))
      (ht:∀ r c x,cellAt rows r c=some x→gD w Z x (f r c)):gD w Z (.tree sz rows) (.slice (some ⟨b,o,none⟩) rows.length cap)
inductive aB (os:List Ob) (w:World) (Z:Nat→Prop) (blk:gG):AV→Value→Prop where
  | undef (cv:Value):aB os w Z blk .undef cv
  | cI (v:AV) (cv:Value) (h:gD w Z v cv):aB os w Z blk v cv
  | dz (cells:List AV) (b o:Nat) (f:Nat→Value) (hz:Z b) (hc:∀ j x,cells[j]?=some x→w.cell? ⟨b,o+j,none⟩=some (f j))
      (ht:∀ j x,cells[j]?=some x→gD w Z x (f j)):aB os w Z blk (.dz cells) (.pointer (some ⟨b,o,none⟩))
  | kx (id sz off len:Nat) (cv:Value) (h:os[id]?=some .gone) (h1:cv.oneCell'=true):aB os w Z blk (.ref id sz off len) cv
  | my (id r c:Nat) (cv:Value) (h:os[id]?=some .gone) (h1:cv.oneCell'=true):aB os w Z blk (.ptr id r c) cv
  | ref (id sz off len b o cap cap':Nat) (rows:List (List AV)) (h:os[id]?=some (.arr sz rows)) (hb:blk id=some (b,o,cap))
      (hl:off+len≤rows.length) (hc:off+cap'≤cap) (ic:len≤cap'):aB os w Z blk (.ref id sz off len) (.slice (some ⟨b,o+off * sz,none⟩) len cap')
  | l7 (id sz:Nat) (h:os[id]?=some (.arr sz [])) (hb:blk id=none):aB os w Z blk (.ref id sz 0 0) (.slice none 0 0)
  | mz (id sz off b x:Nat) (bo:Nat × Nat) (rows:List (List AV)) (h:os[id]?=some (.arr sz rows)) (hb:blk id=some (b,bo)) (hl:off≤rows.length) :
      aB os w Z blk (.ref id sz off 0) (.slice (some ⟨b,x,none⟩) 0 0)
  | m7 (id c b cap:Nat) (cells:List AV) (h:os[id]?=some (.var cells)) (hb:blk id=some (b,0,cap)):aB os w Z blk (.ptr id 0 c) (.pointer (some ⟨b,c,none⟩))
  | nL (id r c sz b o cap:Nat) (rows:List (List AV)) (h:os[id]?=some (.arr sz rows)) (hb:blk id=some (b,o,cap)) :
      aB os w Z blk (.ptr id r c) (.pointer (some ⟨b,o+(r * sz+c),none⟩))
  | agg (cs:List AV) (a8:Array Value) (hs:a8.size=cs.length) (h:∀ j x,cs[j]?=some x→aB os w Z blk x (a8.getD j Go.undef)):aB os w Z blk (.agg cs) (.agg a8)
  | bM (cs:List AV) (a8:Array Value) (hs:a8.size=cs.length) (h:∀ j x,cs[j]?=some x→aB os w Z blk x (a8.getD j Go.undef)):aB os w Z blk (.bM cs) (.tuple a8)
  | fn (f:FuncId) (cs:List AV) (a8:Array Value) (hs:a8.size=cs.length) (h:∀ j x,cs[j]?=some x→aB os w Z blk x (a8.getD j Go.undef)) :
      aB os w Z blk (.fn f cs) (.func (.func f) #[] a8)
  | er (t:TypeId) (v:AV) (cv:Value) (h:aB os w Z blk v cv):aB os w Z blk (.er t v) (.iface t cv)
  | fL (id b:Nat) (ag:Nat) (L:List (List Int × AV)) (h:os[id]?=some (.mp ag L)) (hb:blk id=some (b,0,0)):aB os w Z blk (.fL id) (.map (some b))
  | qa (id:Nat) (cv:Value) (h:os[id]?=some .gone) (h1:cv.oneCell'=true):aB os w Z blk (.fL id) cv
def yB (os:List Ob) (w:World) (Z:Nat→Prop) (blk:gG) (i:Nat):Ob→Prop
  | .gone=>True
  | .var cells=>∃ b cap cur t,blk i=some (b,0,cap)∧w.heap[b]?=some (.cells cur t (0,0))∧cur.size=cells.length ∧
      ∀ c v,cells[c]?=some v→aB os w Z blk v (cur.getD c Go.undef)
  | .arr sz rows=>0<sz∧(∀ row∈rows,row.length=sz) ∧
      ((blk i=none∧rows=[])∨∃ b o cap cur t,blk i=some (b,o,cap)∧w.heap[b]?=some (.cells cur t (0,0))∧o+cap * sz≤cur.size∧rows.length≤cap∧cap≤maxLen ∧
        ∀ r c v,cellAt rows r c=some v→aB os w Z blk v (cur.getD (o+(r * sz+c)) Go.undef))
  | .mp ag L=>∃ b,∃ f:Nat→Value,blk i=some (b,0,0)∧w.heap[b]?=some (.map (gn (dC ag f L)) L.length)∧(∀ p∈L,p.1.length=jF ag)∧∀ (j:Nat) p,L[j]?=some p→aB os w Z blk p.2 (f j)
structure Cx where
  w:World
  tmps:Array Value
  Z:Nat→Prop
  blk:gG
def Live (os:List Ob) (i:Nat):Prop:=∃ o,os[i]?=some o∧o≠.gone
def oD (os:List Ob) (blk:gG) (b:Nat):Prop:=∃ i o cap,Live os i∧blk i=some (b,o,cap)
structure bj (σ:St) (γ:Cx):Prop where
  aw:∀ k,aB σ.aa γ.w γ.Z γ.blk (σ.env k) (γ.tmps.getD k Go.undef)
  eN:∀ (i:Nat) o,σ.aa[i]?=some o→yB σ.aa γ.w γ.Z γ.blk i o
  inj:∀ i j b o c o' c',Live σ.aa i→Live σ.aa j→γ.blk i=some (b,o,c)→γ.blk j=some (b,o',c')→i=j
  nz:∀ b,oD σ.aa γ.blk b→¬ γ.Z b
  iq:∀ b,γ.Z b→b<γ.w.heap.size
def Ob.dU:Ob→Ob→Prop
  | .var a,.var b=>a.length=b.length
  | .arr s a,.arr s' b=>s=s'∧a.length=b.length
  | .mp a _,.mp b _=>a=b
  | _,_=>False
theorem Ob.jY {o:Ob} (h:o≠.gone):o.dU o:=by
  cases o<;>simp_all [Ob.dU]
theorem Ob.Ik {a b c:Ob} (h:a.dU b) (k:b.dU c):a.dU c:=by
  cases a<;>cases b<;>cases c<;>simp_all [Ob.dU]
theorem Ob.abd {a b:Ob} (h:a.dU b):a≠.gone∧b≠.gone:=by
  cases a<;>cases b<;>simp_all [Ob.dU]
structure Fr (Ah:List Ob) (pA:Cx) (os:List Ob) (γ:Cx):Prop where
  m5:γ.w.os=pA.w.os
  tape:γ.w.tape=pA.w.tape
  output:γ.w.output=pA.w.output
  size:pA.w.heap.size≤γ.w.heap.size
  fV:∀ b,b<pA.w.heap.size→¬ oD Ah pA.blk b→γ.w.heap[b]?=pA.w.heap[b]?
  z0:∀ b,pA.Z b→γ.Z b
  z1:∀ b,γ.Z b→pA.Z b∨oD Ah pA.blk b∨pA.w.heap.size≤b
  own:∀ b,oD os γ.blk b→oD Ah pA.blk b∨pA.w.heap.size≤b
  len:Ah.length≤os.length
  kz:∀ i,i<Ah.length→Live os i→γ.blk i=pA.blk i∧∃ o o',Ah[i]?=some o∧os[i]?=some o'∧o.dU o'
theorem Fr.refl (os:List Ob) (γ:Cx):Fr os γ os γ :=
  ⟨rfl,rfl,rfl,aV _,fun _ _ _=>rfl,fun _ h=>h,fun _ h=>.inl h,fun _ h=>.inl h,aV _,fun _ _ ⟨o,ho,hg⟩=>⟨rfl,o,o,ho,ho,Ob.jY hg⟩⟩
theorem Fr.trans {a b c:List Ob} {x y z:Cx} (h:Fr a x b y) (k:Fr b y c z):Fr a x c z where
  m5:=k.m5.trans h.m5
  tape:=k.tape.trans h.tape
  output:=k.output.trans h.output
  size:=tp h.size k.size
  fV:=fun n hn ho=>(k.fV n (G9 hn h.size) (fun hw=>(h.own n hw).elim ho (fun hl=>by omega))).trans (h.fV n hn ho)
  z0:=fun n hn=>k.z0 n (h.z0 n hn)
  z1:=fun n hn=>by
    rcases k.z1 n hn with h1 | h1 | h1
    · exact h.z1 n h1
    · rcases h.own n h1 with h2 | h2
      · exact .inr (.inl h2)
      · exact .inr (.inr h2)
    · exact .inr (.inr (tp h.size h1))
  own:=fun n hn=>by
    rcases k.own n hn with h1 | h1
    · exact h.own n h1
    · exact .inr (tp h.size h1)
  len:=tp h.len k.len
  kz:=fun i hi hl=>by
    obtain ⟨h1,o,o',ho,cp,hk⟩:=k.kz i (G9 hi h.len) hl
    obtain ⟨h3,x,x',hx,cP,aF⟩:=h.kz i hi ⟨o,ho,(Ob.abd hk).1⟩
    rw[ho] at cP
    simp at cP
    subst cP
    exact⟨h1.trans h3,x,o',hx,cp,Ob.Ik aF hk⟩
theorem Ov {w w':World} {b o:Nat} (h:w'.heap[b]?=w.heap[b]?):w'.cell? ⟨b,o,none⟩=w.cell? ⟨b,o,none⟩:=by
  simp[World.cell?,h]
theorem gD.mono {w w':World} {Z Z':Nat→Prop} {v:AV} {cv:Value} (h:gD w Z v cv) (hz:∀ b,Z b→Z' b∧w'.heap[b]?=w.heap[b]?):gD w' Z' v cv:=by
  induction h with
  | lit v=>exact .lit v
  | nil sz cap a=>exact .nil sz cap a
  | tree sz rows b o cap f uY hr Cd hc _ ih =>
    exact .tree sz rows b o cap f (hz b uY).1 hr Cd (fun r c x hx=>by rw[Ov (hz b uY).2];exact hc r c x hx) ih
theorem aB.mono {os gW:List Ob} {w w':World} {Z Z':Nat→Prop} {blk jX:gG} {v:AV} {cv:Value} (h:aB os w Z blk v cv)
    (hz:∀ b,Z b→Z' b∧w'.heap[b]?=w.heap[b]?)
    (ho:∀ i o,os[i]?=some o→gW[i]?=some .gone∨(jX i=blk i∧∃ o',gW[i]?=some o'∧o.dU o')):aB gW w' Z' jX v cv:=by
  induction h with
  | undef cv=>exact .undef cv
  | cI v cv h=>exact .cI v cv (h.mono hz)
  | dz cells b o f uY hc ht =>
    exact .dz cells b o f (hz b uY).1 (fun j x hx=>by rw[Ov (hz b uY).2];exact hc j x hx) (fun j x hx=>(ht j x hx).mono hz)
  | kx id sz off len cv h h1 =>
    rcases ho id _ h with h' | ⟨_,o',_,hl⟩
    · exact .kx id sz off len cv h' h1
    · exact absurd hl (by simp[Ob.dU])
  | my id r c cv h h1 =>
    rcases ho id _ h with h' | ⟨_,o',_,hl⟩
    · exact .my id r c cv h' h1
    · exact absurd hl (by simp[Ob.dU])
  | ref id sz off len b o cap cap' rows h hb hl hc ic =>
    rcases ho id _ h with h' | ⟨fN,o',cp,hk⟩
    · exact .kx _ _ _ _ _ h' rfl
    · cases o'<;>simp[Ob.dU] at hk
      obtain ⟨rfl,hk⟩:=hk
      exact .ref id sz off len b o cap cap' _ cp (fN.trans hb) (by omega) hc ic
  | l7 id sz h hb =>
    rcases ho id _ h with h' | ⟨fN,o',cp,hk⟩
    · exact .kx _ _ _ _ _ h' rfl
    · cases o'<;>simp[Ob.dU] at hk
      obtain ⟨rfl,hk⟩:=hk
      have aF:=List.eq_nil_of_length_eq_zero hk.symm
      subst aF
      exact .l7 id sz cp (fN.trans hb)
  | mz id sz off b x bo rows h hb hl =>
    rcases ho id _ h with h' | ⟨fN,o',cp,hk⟩
    · exact .kx _ _ _ _ _ h' rfl
    · cases o'<;>simp[Ob.dU] at hk
      obtain ⟨rfl,hk⟩:=hk
      exact .mz id sz off b x bo _ cp (fN.trans hb) (by omega)
  | m7 id c b cap cells h hb =>
    rcases ho id _ h with h' | ⟨fN,o',cp,hk⟩
    · exact .my _ _ _ _ h' rfl
    · cases o'<;>simp[Ob.dU] at hk
      exact .m7 id c b cap _ cp (fN.trans hb)
  | nL id r c sz b o cap rows h hb =>
    rcases ho id _ h with h' | ⟨fN,o',cp,hk⟩
    · exact .my _ _ _ _ h' rfl
    · cases o'<;>simp[Ob.dU] at hk
      obtain ⟨rfl,hk⟩:=hk
      exact .nL id r c sz b o cap _ cp (fN.trans hb)
  | agg cs a8 hs _ ih=>exact .agg cs a8 hs ih
  | bM cs a8 hs _ ih=>exact .bM cs a8 hs ih
  | fn f cs a8 hs _ ih=>exact .fn f cs a8 hs ih
  | er t v cv _ ih=>exact .er t v cv ih
  | fL id b ag L h hb =>
    rcases ho id _ h with h' | ⟨fN,o',cp,hk⟩
    · exact .qa _ _ h' rfl
    · cases o'<;>simp[Ob.dU] at hk
      subst hk
      exact .fL id b _ _ cp (fN.trans hb)
  | qa id cv h h1 =>
    rcases ho id _ h with h' | ⟨_,o',cp,hk⟩
    · exact .qa _ _ h' h1
    · cases o'<;>simp[Ob.dU] at hk
theorem Live.lt {os:List Ob} {i:Nat} (h:Live os i):i<os.length:=by
  obtain ⟨o,ho,_⟩:=h
  exact (aY.1 ho).1
theorem aB.same {os:List Ob} {w w':World} {Z:Nat→Prop} {blk:gG} {v:AV} {cv:Value} (h:aB os w Z blk v cv) (hw:w'.heap=w.heap):aB os w' Z blk v cv :=
  h.mono (fun b hb=>⟨hb,by rw[hw]⟩) (fun i o ho=>by
    by_cases hg:o=.gone
    · subst hg;exact .inl ho
    · exact .inr ⟨rfl,o,ho,Ob.jY hg⟩)
theorem yB.mono {os gW:List Ob} {w w':World} {Z Z':Nat→Prop} {blk jX:gG} {i:Nat} {o:Ob} (h:yB os w Z blk i o)
    (hR:∀ v cv,aB os w Z blk v cv→aB gW w' Z' jX v cv) (hb:jX i=blk i)
    (hk:∀ b o c,blk i=some (b,o,c)→w'.heap[b]?=w.heap[b]?):yB gW w' Z' jX i o:=by
  cases o with
  | gone=>trivial
  | var cells =>
    obtain ⟨b,cap,cur,t,h1,h2,h3,h4⟩:=h
    exact⟨b,cap,cur,t,hb.trans h1,(hk _ _ _ h1).trans h2,h3,fun c v hv=>hR _ _ (h4 c v hv)⟩
  | arr sz rows =>
    obtain ⟨h0,hr,h⟩:=h
    refine⟨h0,hr,?_⟩
    rcases h with ⟨h1,h2⟩ | ⟨b,o,cap,cur,t,h1,h2,h3,h4,h5,h6⟩
    · exact .inl ⟨hb.trans h1,h2⟩
    · exact .inr ⟨b,o,cap,cur,t,hb.trans h1,(hk _ _ _ h1).trans h2,h3,h4,h5,fun r c v hv=>hR _ _ (h6 r c v hv)⟩
  | mp ag L =>
    obtain ⟨b,f,h1,h2,h3,h4⟩:=h
    exact⟨b,f,hb.trans h1,(hk _ _ _ h1).trans h2,h3,fun j p hp=>hR _ _ (h4 j p hp)⟩
theorem bj.put {σ:St} {γ:Cx} (h:bj σ γ) (d:Nat) (hd:d<γ.tmps.size) {v:AV} {cv:Value} (hv:aB σ.aa γ.w γ.Z γ.blk v cv) :
    bj { σ with env:=jG σ.env d v } { γ with tmps:=γ.tmps.setIfInBounds d cv } where
  aw:=fun k=>by
    simp only[jG]
    by_cases hk:k=d
    · subst hk
      simp[eY,hd]
      exact hv
    · simp only[hk,if_false,eY,Array.getElem?_setIfInBounds_ne (Ne.symm hk)]
      have:=h.aw k
      simpa [eY] using this
  eN:=h.eN
  inj:=h.inj
  nz:=h.nz
  iq:=h.iq
theorem bj.HP {σ:St} {γ:Cx} (h:bj σ γ) {w':World} (hw:w'.heap=γ.w.heap):bj σ { γ with w:=w' } where
  aw:=fun k=>(h.aw k).same hw
  eN:=fun i o ho=>(h.eN i o ho).mono (fun v cv hv=>hv.same hw) rfl (fun b _ _ _=>by rw[hw])
  inj:=h.inj
  nz:=h.nz
  iq:=fun b hb=>by have:=h.iq b hb;simpa [hw] using this
theorem Fr.HP {a b:List Ob} {x y:Cx} (h:Fr a x b y) {w':World} (hw:w'.heap=y.w.heap) (h1:w'.os=y.w.os) (h2:w'.tape=y.w.tape) (h3:w'.output=y.w.output) :
    Fr a x b { y with w:=w' } :=
  h.trans ⟨h1,h2,h3,by simp[hw],fun _ _ _=>by simp[hw],fun _ h=>h,fun _ h=>.inl h,fun _ h=>.inl h,aV _,fun _ _ ⟨o,ho,hg⟩=>⟨rfl,o,o,ho,ho,Ob.jY hg⟩⟩
theorem Fr.put {a b:List Ob} {x y:Cx} (h:Fr a x b y) (t:Array Value):Fr a x b { y with tmps:=t }:=⟨h.m5,h.tape,h.output,h.size,h.fV,h.z0,h.z1,h.own,h.len,h.kz⟩
def cK (blk:gG) (n:Nat) (x:Option (Nat × Nat × Nat)):gG:=fun i=>if i=n then x else blk i
def sw (os:List Ob) (w:World) (Z:Nat→Prop) (blk:gG) (o cap:Nat) (cur:Array Value):Ob→Prop
  | .gone=>True
  | .var cells=>o=0∧cur.size=cells.length∧∀ c v,cells[c]?=some v→aB os w Z blk v (cur.getD c Go.undef)
  | .arr sz rows=>0<sz∧(∀ row∈rows,row.length=sz)∧o+cap * sz≤cur.size∧rows.length≤cap∧cap≤maxLen ∧
        ∀ r c v,cellAt rows r c=some v→aB os w Z blk v (cur.getD (o+(r * sz+c)) Go.undef)
  | .mp _ _=>False
theorem sw.Ie {os gW:List Ob} {w w':World} {Z Z':Nat→Prop} {blk jX:gG} {i b o cap:Nat} {cur:Array Value} {t:TypeId} {ob:Ob} (h:sw os w Z blk o cap cur ob)
    (hR:∀ v cv,aB os w Z blk v cv→aB gW w' Z' jX v cv) (hb:jX i=some (b,o,cap)) (hk:w'.heap[b]?=some (.cells cur t (0,0))):yB gW w' Z' jX i ob:=by
  cases ob with
  | gone=>trivial
  | var cells =>
    obtain ⟨h0,h1,h2⟩:=h
    subst h0
    exact⟨b,cap,cur,t,hb,hk,h1,fun c v hv=>hR _ _ (h2 c v hv)⟩
  | arr sz rows =>
    obtain ⟨h0,h1,h2,h3,h4,h5⟩:=h
    exact⟨h0,h1,.inr ⟨b,o,cap,cur,t,hb,hk,h2,h3,h4,fun r c v hv=>hR _ _ (h5 r c v hv)⟩⟩
  | mp ag L=>exact h.elim
theorem bj.B3 {σ:St} {γ:Cx} (h:bj σ γ) {w':World} {x:Obj} {cap:Nat} {ob:Ob}
    (hw:w'.heap=γ.w.heap.push x) (cj:∀ gW w' jX,(∀ v cv,aB σ.aa γ.w γ.Z γ.blk v cv→aB gW w' γ.Z jX v cv)→jX σ.aa.length=some (γ.w.heap.size,0,cap)→w'.heap[γ.w.heap.size]?=some x→yB gW w' γ.Z jX σ.aa.length ob) :
    bj { σ with aa:=σ.aa++[ob] } { γ with w:=w',blk:=cK γ.blk σ.aa.length (some (γ.w.heap.size,0,cap)) }:=by
  have aT:∀ b,b<γ.w.heap.size→w'.heap[b]?=γ.w.heap[b]?:=fun b hb=>by
    rw[hw,Array.getElem?_push,if_neg (by omega)]
  have hR:∀ v cv,aB σ.aa γ.w γ.Z γ.blk v cv→aB (σ.aa++[ob]) w' γ.Z (cK γ.blk σ.aa.length (some (γ.w.heap.size,0,cap))) v cv:=fun v cv hv =>
    hv.mono (fun b hb=>⟨hb,aT b (h.iq b hb)⟩) (fun i o ho=>by
      have hi:i<σ.aa.length:=(aY.1 ho).1
      have cp:(σ.aa++[ob])[i]?=some o:=by rw[dH hi];exact ho
      by_cases bE:o=.gone
      · subst bE;exact .inl cp
      · exact .inr ⟨by simp[cK,lY hi],o,cp,Ob.jY bE⟩)
  have cM:∀ i,Live (σ.aa++[ob]) i→i=σ.aa.length∨Live σ.aa i:=by
    rintro i ⟨o,ho,bE⟩
    rcases dG i σ.aa.length with hi | hi
    · rw[dH hi] at ho
      exact .inr ⟨o,ho,bE⟩
    · left
      have:=(aY.1 ho).1
      simp at this
      omega
  have u1:∀ i b o c,Live σ.aa i→γ.blk i=some (b,o,c)→b<γ.w.heap.size:=by
    rintro i b o c ⟨x,hx,dD⟩ hb
    have:=h.eN i x hx
    cases x with
    | gone=>exact absurd rfl dD
    | var cells =>
      obtain ⟨b',cap',oI,t',h1,h2,_⟩:=this
      rw[hb] at h1;simp at h1
      obtain ⟨rfl,_⟩:=h1
      exact (pk.1 h2).1
    | arr sz rows =>
      obtain ⟨_,_,⟨h1,_⟩ | ⟨b',o',cap',oI,t',h1,h2,_⟩⟩:=this
      · rw[hb] at h1;simp at h1
      · rw[hb] at h1;simp at h1
        obtain ⟨rfl,_⟩:=h1
        exact (pk.1 h2).1
    | mp ag L =>
      obtain ⟨b',f',h1,h2,_⟩:=this
      rw[hb] at h1;simp at h1
      obtain ⟨rfl,_⟩:=h1
      exact (pk.1 h2).1
  refine⟨fun k=>hR _ _ (h.aw k),?_,?_,?_,?_⟩
  · intro i o ho
    rcases dG i σ.aa.length with hi | hi
    · have cp:σ.aa[i]?=some o:=by rw[dH hi] at ho;exact ho
      by_cases bE:o=.gone
      · subst bE;trivial
      · refine (h.eN i o cp).mono hR (by simp[cK,lY hi]) (fun b x c hb=>aT b (u1 i b x c ⟨o,cp,bE⟩ hb))
    · have ax:i=σ.aa.length:=by
        have:=(aY.1 ho).1
        simp at this
        omega
      subst ax
      simp at ho
      subst ho
      exact cj _ _ _ hR (by simp[cK]) (by rw[hw];simp)
  · intro i j b o c o' c' hi hj fX gA
    simp only[cK] at fX gA
    rcases cM i hi with rfl | ax<;>rcases cM j hj with rfl | cq
    · rfl
    · rw[if_pos rfl] at fX
      rw[if_neg (lY cq.lt)] at gA
      have:=u1 _ _ _ _ cq gA
      simp at fX
      omega
    · rw[if_pos rfl] at gA
      rw[if_neg (lY ax.lt)] at fX
      have:=u1 _ _ _ _ ax fX
      simp at gA
      omega
    · rw[if_neg (lY cq.lt)] at gA
      rw[if_neg (lY ax.lt)] at fX
      exact h.inj i j b o c o' c' ax cq fX gA
  · rintro b ⟨i,o,c,hi,hb⟩ hz
    simp only[cK] at hb
    rcases cM i hi with rfl | ax
    · rw[if_pos rfl] at hb
      simp at hb
      have:=h.iq b hz
      omega
    · rw[if_neg (lY ax.lt)] at hb
      exact h.nz b ⟨i,o,c,ax,hb⟩ hz
  · intro b hb
    have:=h.iq b hb
    rw[hw];simp;omega
theorem bj.push {σ:St} {γ:Cx} (h:bj σ γ) {w':World} {cur:Array Value} {t:TypeId} {cap:Nat} {ob:Ob}
    (hw:w'.heap=γ.w.heap.push (.cells cur t (0,0))) (cj:sw σ.aa γ.w γ.Z γ.blk 0 cap cur ob) :
    bj { σ with aa:=σ.aa++[ob] } { γ with w:=w',blk:=cK γ.blk σ.aa.length (some (γ.w.heap.size,0,cap)) } :=
  h.B3 hw fun _ _ _ hR hb hk=>cj.Ie hR hb hk
theorem bj.blt {σ:St} {γ:Cx} (h:bj σ γ) {i b o c:Nat} (hl:Live σ.aa i) (hb:γ.blk i=some (b,o,c)):b<γ.w.heap.size:=by
  obtain ⟨x,hx,dD⟩:=hl
  have:=h.eN i x hx
  cases x with
  | gone=>exact absurd rfl dD
  | var cells =>
    obtain ⟨b',cap',oI,t',h1,h2,_⟩:=this
    rw[hb] at h1;simp at h1
    obtain ⟨rfl,_⟩:=h1
    exact (pk.1 h2).1
  | arr sz rows =>
    obtain ⟨_,_,⟨h1,_⟩ | ⟨b',o',cap',oI,t',h1,h2,_⟩⟩:=this
    · rw[hb] at h1;simp at h1
    · rw[hb] at h1;simp at h1
      obtain ⟨rfl,_⟩:=h1
      exact (pk.1 h2).1
  | mp ag L =>
    obtain ⟨b',f',h1,h2,_⟩:=this
    rw[hb] at h1;simp at h1
    obtain ⟨rfl,_⟩:=h1
    exact (pk.1 h2).1
theorem Fr.B3 {σ:St} {γ:Cx} {w':World} {x0:Obj} {cap:Nat} (ob:Ob)
    (hw:w'.heap=γ.w.heap.push x0) (h1:w'.os=γ.w.os) (h2:w'.tape=γ.w.tape) (h3:w'.output=γ.w.output) :
    Fr σ.aa γ (σ.aa++[ob]) { γ with w:=w',blk:=cK γ.blk σ.aa.length (some (γ.w.heap.size,0,cap)) } where
  m5:=h1
  tape:=h2
  output:=h3
  size:=by rw[hw];simp
  fV:=fun b hb _=>by simp only[hw,Array.getElem?_push];rw[if_neg (by omega)]
  z0:=fun _ h=>h
  z1:=fun _ h=>.inl h
  own:=by
    rintro b ⟨i,o,c,⟨x,hx,dD⟩,hb⟩
    simp only[cK] at hb
    split at hb
    · simp at hb;right;omega
    · rename_i b8
      have hi:i<σ.aa.length:=by have:=(aY.1 hx).1;simp at this;omega
      rw[dH hi] at hx
      exact .inl ⟨i,o,c,⟨x,hx,dD⟩,hb⟩
  len:=by simp
  kz:=by
    rintro i hi ⟨x,hx,dD⟩
    have hx0:=hx
    rw[dH hi] at hx
    exact⟨by simp[cK,lY hi],x,x,hx,hx0,Ob.jY dD⟩
theorem Fr.push {σ:St} {γ:Cx} {w':World} {cur:Array Value} {t:TypeId} {cap:Nat} (ob:Ob)
    (hw:w'.heap=γ.w.heap.push (.cells cur t (0,0))) (h1:w'.os=γ.w.os) (h2:w'.tape=γ.w.tape) (h3:w'.output=γ.w.output) :
    Fr σ.aa γ (σ.aa++[ob]) { γ with w:=w',blk:=cK γ.blk σ.aa.length (some (γ.w.heap.size,0,cap)) }:=Fr.B3 ob hw h1 h2 h3
theorem bj.kill {σ:St} {γ:Cx} (h:bj σ γ) (id:Nat):bj { σ with aa:=σ.aa.set id .gone } γ:=by
  have hR:∀ v cv,aB σ.aa γ.w γ.Z γ.blk v cv→aB (σ.aa.set id .gone) γ.w γ.Z γ.blk v cv:=fun v cv hv =>
    hv.mono (fun b hb=>⟨hb,rfl⟩) (fun i o ho=>by
      have hi:i<σ.aa.length:=(aY.1 ho).1
      rw[bO]
      by_cases mA:id=i
      · left;simp[mA,hi]
      · rw[if_neg mA]
        by_cases bE:o=.gone
        · subst bE;exact .inl ho
        · exact .inr ⟨rfl,o,ho,Ob.jY bE⟩)
  have cM:∀ i,Live (σ.aa.set id .gone) i→Live σ.aa i:=by
    rintro i ⟨o,ho,bE⟩
    rw[bO] at ho
    split at ho
    · split at ho<;>simp at ho;exact absurd ho.symm bE
    · exact⟨o,ho,bE⟩
  refine⟨fun k=>hR _ _ (h.aw k),?_,fun i j b o c o' c' hi hj=>h.inj i j b o c o' c' (cM i hi) (cM j hj),?_,h.iq⟩
  · intro i o ho
    rw[bO] at ho
    split at ho
    · split at ho<;>simp at ho
      subst ho
      trivial
    · exact (h.eN i o ho).mono hR rfl (fun _ _ _ _=>rfl)
  · rintro b ⟨i,o,c,hi,hb⟩
    exact h.nz b ⟨i,o,c,cM i hi,hb⟩
theorem Fr.kill (os:List Ob) (γ:Cx) (id:Nat):Fr os γ (os.set id .gone) γ where
  m5:=rfl
  tape:=rfl
  output:=rfl
  size:=aV _
  fV:=fun _ _ _=>rfl
  z0:=fun _ h=>h
  z1:=fun _ h=>.inl h
  own:=by
    rintro b ⟨i,o,c,⟨x,hx,dD⟩,hb⟩
    rw[bO] at hx
    split at hx
    · split at hx<;>simp at hx;exact absurd hx.symm dD
    · exact .inl ⟨i,o,c,⟨x,hx,dD⟩,hb⟩
  len:=by simp
  kz:=by
    rintro i hi ⟨x,hx,dD⟩
    have hx0:=hx
    rw[bO] at hx
    split at hx
    · split at hx<;>simp at hx;exact absurd hx.symm dD
    · exact⟨rfl,x,x,hx,hx0,Ob.jY dD⟩
theorem bj.EJ {σ:St} {γ:Cx} (h:bj σ γ) {id:Nat} {ob ob':Ob} (ho:σ.aa[id]?=some ob) (hg:ob≠.gone) (kA:ob.dU ob') {b o cap:Nat} (hb:γ.blk id=some (b,o,cap))
    {w':World} (nQ:∀ k,k≠b→w'.heap[k]?=γ.w.heap[k]?) (a5:w'.heap.size=γ.w.heap.size)
    (cj:∀ gW,(∀ v cv,aB σ.aa γ.w γ.Z γ.blk v cv→aB gW w' γ.Z γ.blk v cv)→yB gW w' γ.Z γ.blk id ob'):bj { σ with aa:=σ.aa.set id ob' } { γ with w:=w' }:=by
  have cT:id<σ.aa.length:=(aY.1 ho).1
  have oH:Live σ.aa id:=⟨ob,ho,hg⟩
  have qS:ob'≠.gone:=by intro e;subst e;cases ob<;>simp[Ob.dU] at kA
  have hR:∀ v cv,aB σ.aa γ.w γ.Z γ.blk v cv→aB (σ.aa.set id ob') w' γ.Z γ.blk v cv:=fun v cv hv =>
    hv.mono (fun z hz=>⟨hz,nQ z (fun e=>h.nz b ⟨id,o,cap,oH,hb⟩ (e ▸ hz))⟩) (fun i x hx=>by
      rw[bO]
      by_cases mA:id=i
      · subst mA
        rw[ho] at hx
        simp at hx
        subst hx
        right
        refine⟨rfl,ob',by simp[cT],kA⟩
      · rw[if_neg mA]
        by_cases bE:x=.gone
        · subst bE;exact .inl hx
        · exact .inr ⟨rfl,x,hx,Ob.jY bE⟩)
  have cM:∀ i,Live (σ.aa.set id ob') i→Live σ.aa i:=by
    rintro i ⟨x,hx,dD⟩
    rw[bO] at hx
    split at hx
    · rename_i e;subst e;exact oH
    · exact⟨x,hx,dD⟩
  refine⟨fun k=>hR _ _ (h.aw k),?_,fun i j b o c o' c' hi hj=>h.inj i j b o c o' c' (cM i hi) (cM j hj),?_,fun z hz=>by rw[a5];exact h.iq z hz⟩
  · intro i x hx
    rw[bO] at hx
    by_cases mA:id=i
    · subst mA
      rw[if_pos rfl,if_pos cT] at hx
      simp at hx
      subst hx
      exact cj _ hR
    · rw[if_neg mA] at hx
      by_cases bE:x=.gone
      · subst bE;trivial
      · refine (h.eN i x hx).mono hR rfl (fun z y c hz=>nQ z (fun e=>mA ?_))
        subst e
        exact h.inj id i z o cap y c oH ⟨x,hx,bE⟩ hb hz
  · rintro z ⟨i,y,c,hi,hz⟩
    exact h.nz z ⟨i,y,c,cM i hi,hz⟩
theorem bj.write {σ:St} {γ:Cx} (h:bj σ γ) {id:Nat} {ob ob':Ob} (ho:σ.aa[id]?=some ob) (hg:ob≠.gone) (kA:ob.dU ob') {b o cap:Nat} (hb:γ.blk id=some (b,o,cap))
    {w':World} {cur:Array Value} {t:TypeId} (hw:w'.heap[b]?=some (.cells cur t (0,0))) (nQ:∀ k,k≠b→w'.heap[k]?=γ.w.heap[k]?) (a5:w'.heap.size=γ.w.heap.size)
    (cj:sw σ.aa γ.w γ.Z γ.blk o cap cur ob'):bj { σ with aa:=σ.aa.set id ob' } { γ with w:=w' } :=
  h.EJ ho hg kA hb nQ a5 fun _ hR=>cj.Ie hR hb hw
theorem Fr.write {σ:St} {γ:Cx} {id:Nat} {ob:Ob} (ob':Ob) (ho:σ.aa[id]?=some ob) (hg:ob≠.gone) (kA:ob.dU ob') {b o cap:Nat} (hb:γ.blk id=some (b,o,cap))
    {w':World} (nQ:∀ k,k≠b→w'.heap[k]?=γ.w.heap[k]?) (a5:w'.heap.size=γ.w.heap.size) (h1:w'.os=γ.w.os) (h2:w'.tape=γ.w.tape) (h3:w'.output=γ.w.output) :
    Fr σ.aa γ (σ.aa.set id ob') { γ with w:=w' } where
  m5:=h1
  tape:=h2
  output:=h3
  size:=by simp[a5]
  fV:=fun z _ k7=>nQ z (fun e=>k7 ⟨id,o,cap,⟨ob,ho,hg⟩,e ▸ hb⟩)
  z0:=fun _ h=>h
  z1:=fun _ h=>.inl h
  own:=by
    rintro z ⟨i,y,c,⟨x,hx,dD⟩,hz⟩
    rw[bO] at hx
    split at hx
    · rename_i e;subst e;exact .inl ⟨id,y,c,⟨ob,ho,hg⟩,hz⟩
    · exact .inl ⟨i,y,c,⟨x,hx,dD⟩,hz⟩
  len:=by simp
  kz:=by
    rintro i hi ⟨x,hx,dD⟩
    have hx0:=hx
    rw[bO] at hx
    split at hx
    · rename_i e;subst e;exact⟨rfl,ob,ob',ho,by rw[bO];simp[hi],kA⟩
    · exact⟨rfl,x,x,hx,hx0,Ob.jY dD⟩
end Go.Am
namespace Go.Am
structure Ty where
  kind:Nat
  size:Nat
  bytes:Nat
  elem:Nat
  len:Nat
  zero:Option (List Value)
  aN:List (Nat × Nat × Nat)
def u7 (P:Program) (t:TypeId):Nat:=match P.info? t with | some i=>i.size | none=>0
def ty (P:Program) (t:TypeId):Ty :=
  match P.info? t,P.underlying t with
  | some i,some d =>
    let base:Ty:={ kind:=0,size:=i.size,bytes:=i.bytes,elem:=0,len:=0,zero:=i.zero.map (·.cells.toList),aN:=[] }
    match d with
    | .slice e=>{ base with kind:=1,elem:=e }
    | .array n e=>{ base with kind:=2,elem:=e,len:=n }
    | .struct fs=>{ base with kind:=3,aN:=fs.toList.map fun f=>(f.offset,f.type,u7 P f.type) }
    | .string=>{ base with kind:=4 }
    | .int _=>{ base with kind:=5 }
    | .bool=>{ base with kind:=6 }
    | .pointer e=>{ base with kind:=7,elem:=e }
    | .map _ e=>{ base with kind:=8,elem:=e }
    | .func _ _ _=>{ base with kind:=9 }
    | _=>base
  | _,_=>{ kind:=99,size:=0,bytes:=0,elem:=0,len:=0,zero:=none,aN:=[] }
def Ty.isAgg (t:Ty):Bool:=t.kind == 2 || t.kind == 3
theorem sC {P:Program} {t:TypeId} (h:(ty P t).kind≠99) :∃i d,P.info? t=some i∧P.underlying t=some d∧(ty P t).size=i.size∧(ty P t).bytes=i.bytes∧(ty P t).zero=i.zero.map (·.cells.toList):=by
  unfold ty at h ⊢
  cases hi:P.info? t with
  | none=>simp[hi] at h
  | some i =>
    cases hd:P.underlying t with
    | none=>simp[hi,hd] at h
    | some d =>
      refine⟨i,d,rfl,rfl,?_,?_,?_⟩<;>cases d<;>rfl
theorem sA {P:Program} {t:TypeId} (h:(ty P t).kind=1):P.underlying t=some (.slice (ty P t).elem):=by
  unfold ty at h ⊢
  cases hi:P.info? t<;>cases hd:P.underlying t<;>simp[hi,hd] at h ⊢
  rename_i i d
  cases d<;>simp at h ⊢
theorem Oh {P:Program} {t:TypeId} (h:(ty P t).kind=2):P.underlying t=some (.array (ty P t).len (ty P t).elem):=by
  unfold ty at h ⊢
  cases hi:P.info? t<;>cases hd:P.underlying t<;>simp[hi,hd] at h ⊢
  rename_i i d
  cases d<;>simp at h ⊢
theorem Ia {P:Program} {t:TypeId} (h:(ty P t).kind=3) :∃fs,P.underlying t=some (.struct fs)∧(ty P t).aN=fs.toList.map fun f=>(f.offset,f.type,u7 P f.type):=by
  unfold ty at h ⊢
  cases hi:P.info? t<;>cases hd:P.underlying t<;>simp[hi,hd] at h ⊢
  rename_i i d
  cases d<;>simp at h ⊢
theorem aaP {P:Program} {t:TypeId} (h:(ty P t).kind=6):P.underlying t=some .bool:=by
  unfold ty at h
  cases hi:P.info? t<;>cases hd:P.underlying t<;>simp[hi,hd] at h ⊢
  rename_i i d
  cases d<;>simp at h ⊢
def ei:Value→AV
  | .agg cs=>.agg (cs.toList.map .lit)
  | v=>.lit v
def ev (σ:St):Operand→AV
  | .tmp t=>σ.env t
  | .const v=>ei v
  | .func f=>.fn f []
  | .global _=>.undef
def St.put (σ:St) (dst:Option Tmp) (v:AV):St :=
  match dst with
  | some d=>{ σ with env:=jG σ.env d v }
  | none=>σ
def cm:AV→Bool
  | .lit v=>v.oneCell'
  | .tree .. | .dz _ | .ref .. | .ptr .. | .fn .. | .er .. | .fL ..=>true
  | _=>false
def cellsOf:AV→List AV
  | .agg cs=>cs
  | v=>[v]
def setCells (cells:List AV) (c:Nat):List AV→List AV
  | []=>cells
  | v::vs=>setCells (cells.set c v) (c+1) vs
def l4 (place:Nat→Option (Nat × Nat)) (cells:List AV):List (Nat × AV)→Option (List AV)
  | []=>some cells
  | (i,v)::rest =>
    match place i with
    | none=>none
    | some (off,size)=>if (cellsOf v).length=size∧off+size≤cells.length then l4 place (setCells cells off (cellsOf v)) rest else none
def l5 (sz:Nat):Nat→List AV→List (List AV)
  | 0,_=>[]
  | n+1,cs=>cs.take sz::l5 sz n (cs.drop sz)
def rowOf (σ:St) (id r:Nat):Option (List AV) :=
  match σ.aa[id]? with
  | some (.var cells)=>if r=0 then some cells else none
  | some (.arr _ rows)=>rows[r]?
  | _=>none
def nG (σ:St) (id r:Nat) (row:List AV):St :=
  match σ.aa[id]? with
  | some (.var _)=>{ σ with aa:=σ.aa.set id (.var row) }
  | some (.arr sz rows)=>{ σ with aa:=σ.aa.set id (.arr sz (rows.set r row)) }
  | _=>σ
def l6 (t:Ty) (cells:List AV) (c:Nat) (K:AV→Prop):Prop :=
  if t.isAgg then c+t.size≤cells.length∧K (.agg ((cells.drop c).take t.size))
  else match cells[c]? with
    | some v=>K v
    | none=>False
def ow:List AV→Option (List Int)
  | []=>some []
  | .lit (.int .i64 a)::r=>(ow r).map (a::·)
  | _=>none
def v8 (P:Program) (t:TypeId) (n:Nat):Prop :=
  ∀ (w:World) (as bs:List Int),as.length=n→bs.length=n →
    (Op.equalIn 10000 t (.agg (as.map (Value.int .i64)).toArray) (.agg (bs.map (Value.int .i64)).toArray)).run P w=.ok (decide (as=bs)) w
def Ab (k:IntKind) (a b:Int):Int:=k.wrap ((BitVec.ofInt k.bits a &&& BitVec.ofInt k.bits b).toNat)
def Ow (a b:Int):Int:=IntKind.i64.wrap ((BitVec.ofInt 64 a &&& BitVec.ofInt 64 b).toNat)
theorem Nc (a b:Int):Ab .i64 a b=Ow a b:=by unfold Ab Ow;rfl
def gj (op:BinOp) (k:IntKind) (a b:Int) (K:Value→Prop):Prop :=
  match op with
  | .add=>(k.min≤a+b∧a+b≤k.max)∧K (.int k (a+b))
  | .sub=>(k.min≤a - b∧a - b≤k.max)∧K (.int k (a - b))
  | .mul=>(k.min≤a * b∧a * b≤k.max)∧K (.int k (a * b))
  | .quo=>(0≤a∧0<b∧a≤k.max)∧K (.int k (a / b))
  | .rem=>b≠0∧K (.int k (a.tmod b))
  | .and=>K (.int k (Ab k a b))
  | .shr=>(0≤b∧b.toNat≤k.bits)∧K (.int k (a / 2 ^ b.toNat))
  | .eql=>K (.bool (a == b))
  | .neq=>K (.bool (a != b))
  | .lss=>K (.bool (decide (a<b)))
  | .leq=>K (.bool (decide (a≤b)))
  | .gtr=>K (.bool (decide (a > b)))
  | .geq=>K (.bool (decide (a ≥ b)))
  | _=>False
def fE (t:Bool):AV→AV→AV
  | .lit (.bool x),.lit (.bool y)=>.lit (.bool (bif t then x else y))
  | a,b=>if t then a else b
def nJ (σ:St):AV→Option (Nat × List (List AV))
  | .tree sz rows=>some (sz,rows)
  | .ref id sz off len =>
    match σ.aa[id]? with
    | some (.arr cJ rows)=>if cJ=sz then some (sz,(rows.drop off).take len) else none
    | _=>none
  | _=>none
def p8 (σ:St) (sz:Nat):AV→Option (List (List AV) × St)
  | .lit (.slice none 0 0)=>some ([],σ)
  | .ref id cJ off len =>
    match σ.aa[id]? with
    | some (.arr kq rows)=>if kq=cJ∧cJ=sz then some ((rows.drop off).take len,{ σ with aa:=σ.aa.set id .gone }) else none
    | _=>none
  | _=>none
end Go.Am
namespace Go.Am
variable (P:Program)
def gI (l:List Int):List (List Int × AV)→Nat→Option Nat
  | [],_=>none
  | p::r,i=>if p.1=l then some i else gI l r (i+1)
def nH (l:List Int) (L:List (List Int × AV)):Option AV:=(gI l L 0).bind fun i=>(L[i]?).map (·.2)
def dY (l:List Int) (v:AV) (L:List (List Int × AV)):List (List Int × AV) :=
  match gI l L 0 with
  | some i=>L.set i (l,v)
  | none=>L++[(l,v)]
def tB (l:List Int) (L:List (List Int × AV)):Nat:=(gI l L 0).getD L.length
def nI (n:Nat) (v:AV) (L:List (List Int × AV)):List (List Int × AV):=L.set n ((L.getD n ([],.undef)).1,v)
def ko (P:Program) (t:TypeId) (ag:Nat):Prop:=∃ kt et,P.underlying t=some (.map kt et)∧∀ l:List Int,l.length=jF ag →
  (∀ e w,(Instr.checkKey e 10000 kt (kV ag l)).run P w=.ok () w)∧(∀ w,(Instr.keyThatStays (kV ag l) (kV ag l)).run P w=.ok (kV ag l) w) ∧
  ∀ (f:Nat→Value) (L:List (List Int × AV)) w,(∀ p∈L,p.1.length=jF ag)→(Instr.findKey kt (kV ag l) (gn (dC ag f L)).toList).run P w=.ok ((gI l L 0).map fun i=>(i,f i)) w
def zeroV (P:Program) (t:TypeId):Option Value :=
  match P.info? t with
  | some i=>i.zero
  | none=>none
def zR (P:Program) (t:TypeId):Nat :=
  match P.underlying t with
  | some (.map kt _)=>if (ty P kt).isAgg then (ty P kt).size else 0
  | _=>0
def keyOf:AV→Option (Nat × List Int)
  | .lit (.int .i64 n)=>some (0,[n])
  | .agg cs=>(ow cs).map fun l=>(l.length,l)
  | _=>none
def lC (σ:St):AV→Option (Nat × Nat × List (List Int × AV))
  | .fL id =>
    match σ.aa[id]? with
    | some (.mp ag L)=>some (id,ag,L)
    | _=>none
  | _=>none
def Ht (s:ByteArray) (n:Nat):Int :=
  match s[n]? with
  | some b=>b.toNat
  | none=>0
def uQ (P:Program) (t:TypeId):Bool :=
  match P.underlying t with
  | some (.interface _)=>true
  | some _=>false
  | none=>true
def cg (o:Oper) (σ:St) (K:St→Prop):Prop :=
  match o.op with
  | .move x | .assign x=>K (σ.put o.dst (ev σ x))
  | .pick c a b =>
    match ev σ c with
    | .lit (.bool t)=>K (σ.put o.dst (fE t (ev σ a) (ev σ b)))
    | _=>False
  | .alloc e =>
    (ty P e).kind≠99 ∧
    match (ty P e).zero with
    | some z=>K (({ σ with aa:=σ.aa++[.var (z.map .lit)] }:St).put o.dst (.ptr σ.aa.length 0 0))
    | none=>False
  | .box _ x=>(cellsOf (ev σ x)).all cm=true∧K (({ σ with aa:=σ.aa++[.var (cellsOf (ev σ x))] }:St).put o.dst (.ptr σ.aa.length 0 0))
  | .build t parts =>
    match (ty P t).kind,(ty P t).zero with
    | 3,some z =>
      match l4 (fun i=>((ty P t).aN[i]?).map fun f=>(f.1,f.2.2)) (z.map .lit) (parts.toList.map fun p=>(p.1,ev σ p.2)) with
      | some cs=>((parts.toList.all fun p=>(cellsOf (ev σ p.2)).all cm)=true∧((ty P t).aN.all fun f=>decide (0<f.2.2))=true)∧K (σ.put o.dst (.agg cs))
      | none=>False
    | 2,some z =>
      match l4 (fun i=>some (i * (ty P (ty P t).elem).size,(ty P (ty P t).elem).size)) (z.map .lit) (parts.toList.map fun p=>(p.1,ev σ p.2)) with
      | some cs=>((parts.toList.all fun p=>(cellsOf (ev σ p.2)).all cm)=true∧(ty P (ty P t).elem).kind≠99)∧K (σ.put o.dst (.agg cs))
      | none=>False
    | _,_=>False
  | .buildSlice t len parts =>
    match (ty P t).kind,(ty P (ty P t).elem).zero with
    | 1,some z =>
      match l4 (fun i=>some (i * (ty P (ty P t).elem).size,(ty P (ty P t).elem).size)) ((List.range len).flatMap fun _=>z.map .lit) (parts.toList.map fun p=>(p.1,ev σ p.2)) with
      | some cs=>((ty P (ty P t).elem).kind≠99∧0<(ty P (ty P t).elem).size∧z.length=(ty P (ty P t).elem).size∧len * (ty P (ty P t).elem).size≤16777216∧(parts.toList.all fun p=>(cellsOf (ev σ p.2)).all cm)=true) ∧
          K (({ σ with aa:=σ.aa++[.arr (ty P (ty P t).elem).size (l5 (ty P (ty P t).elem).size len cs)] }:St).put o.dst (.ref σ.aa.length (ty P (ty P t).elem).size 0 len))
      | none=>False
    | _,_=>False
  | .load t a =>
    (ty P t).kind≠99 ∧
    match ev σ a with
    | .ptr id r c =>
      match rowOf σ id r with
      | some row=>l6 (ty P t) row c fun v=>K (σ.put o.dst v)
      | none=>False
    | .dz cells=>l6 (ty P t) cells 0 fun v=>K (σ.put o.dst v)
    | _=>False
  | .store t a x =>
    (ty P t).kind≠99 ∧
    match ev σ a with
    | .ptr id r c =>
      match rowOf σ id r with
      | some row=>((cellsOf (ev σ x)).length=(ty P t).size∧c+(ty P t).size≤row.length∧(cellsOf (ev σ x)).all cm=true)∧K ((nG σ id r (setCells row c (cellsOf (ev σ x)))).put o.dst .undef)
      | none=>False
    | _=>False
  | .nilCheck x =>
    match ev σ x with
    | .ptr id r c =>
      match σ.aa[id]? with
      | some .gone=>False
      | some _=>K (σ.put o.dst (.ptr id r c))
      | none=>False
    | .dz cells=>K (σ.put o.dst (.dz cells))
    | _=>False
  | .binOp op t x y _ =>
    match ev σ x,ev σ y with
    | .lit (.int k a),.lit (.int k' b)=>k=k'∧gj op k a b fun v=>K (σ.put o.dst (.lit v))
    | .lit (.bool a),.lit (.bool b) =>
      (ty P t).kind=6 ∧
      match op with
      | .eql=>K (σ.put o.dst (.lit (.bool (a == b))))
      | .neq=>K (σ.put o.dst (.lit (.bool (a != b))))
      | _=>False
    | .tree _ rows,.lit (.slice none 0 0) =>
      ((ty P t).kind=1∧0<rows.length) ∧
      match op with
      | .eql=>K (σ.put o.dst (.lit (.bool false)))
      | .neq=>K (σ.put o.dst (.lit (.bool true)))
      | _=>False
    | .lit (.slice a _ _),.lit (.slice none 0 0) =>
      (ty P t).kind=1 ∧
      match op with
      | .eql=>K (σ.put o.dst (.lit (.bool a.isNone)))
      | .neq=>K (σ.put o.dst (.lit (.bool (!a.isNone))))
      | _=>False
    | .agg cs,.agg ds =>
      match ow cs,ow ds with
      | some as,some bs =>
        (v8 P t as.length∧bs.length=as.length∧P.eqGuardType P.depth t=false) ∧
        match op with
        | .eql=>K (σ.put o.dst (.lit (.bool (decide (as=bs)))))
        | .neq=>K (σ.put o.dst (.lit (.bool (!decide (as=bs)))))
        | _=>False
      | _,_=>False
    | _,_=>False
  | .unOp op _ x =>
    match op,ev σ x with
    | .not,.lit (.bool b)=>K (σ.put o.dst (.lit (.bool !b)))
    | .neg,.lit (.int k a)=>(k.min≤-a∧-a≤k.max)∧K (σ.put o.dst (.lit (.int k (-a))))
    | _,_=>False
  | .makeFunc fn first captured =>
    match fn with
    | .func f=>first.size=0∧K (σ.put o.dst (.fn f (captured.toList.map (ev σ))))
    | _=>False
  | .makeSlice t l c =>
    match (ty P t).kind,(ty P (ty P t).elem).zero,ev σ l,ev σ c with
    | 1,some z,.lit (.int k n),.lit (.int k' n') =>
      ((ty P (ty P t).elem).kind≠99∧0<(ty P (ty P t).elem).size∧z.length=(ty P (ty P t).elem).size∧n'=n∧0≤n∧n≤1099511627776∧(ty P (ty P t).elem).bytes≤128∧k=k) ∧
        K (({ σ with aa:=σ.aa++[.arr (ty P (ty P t).elem).size (aW n.toNat (z.map .lit))] }:St).put o.dst (.ref σ.aa.length (ty P (ty P t).elem).size 0 n.toNat))∧k'=k'
    | _,_,_,_=>False
  | .slice t x lo hi mx =>
    (ty P t).kind=1∧(ty P (ty P t).elem).kind≠99∧mx=none ∧
    match ev σ x with
    | .ref id sz off len =>
      match σ.aa[id]? with
      | some (.arr cJ rows) =>
        cJ=sz∧sz=(ty P (ty P t).elem).size ∧
        match lo.map (ev σ),hi.map (ev σ) with
        | none,none=>K (σ.put o.dst (.ref id sz off len))
        | some (.lit (.int _ l)),none=>(0≤l∧l≤len∧rows.length=rows.length)∧K (σ.put o.dst (.ref id sz (off+l.toNat) (len - l.toNat)))
        | none,some (.lit (.int _ h))=>(0≤h∧h≤len)∧K (σ.put o.dst (.ref id sz off h.toNat))
        | some (.lit (.int _ l)),some (.lit (.int _ h))=>(0≤l∧l≤h∧h≤len)∧K (σ.put o.dst (.ref id sz (off+l.toNat) (h.toNat - l.toNat)))
        | _,_=>False
      | _=>False
    | .tree sz rows =>
        (rows≠[]→sz=(ty P (ty P t).elem).size) ∧
        match lo.map (ev σ),hi.map (ev σ) with
        | none,none=>K (σ.put o.dst (.tree sz rows))
        | some (.lit (.int _ l)),none=>(0≤l∧l≤rows.length)∧K (σ.put o.dst (.tree sz (rows.drop l.toNat)))
        | none,some (.lit (.int _ h))=>(0≤h∧h≤rows.length)∧K (σ.put o.dst (.tree sz (rows.take h.toNat)))
        | some (.lit (.int _ l)),some (.lit (.int _ h))=>(0≤l∧l≤h∧h≤rows.length)∧K (σ.put o.dst (.tree sz ((rows.take h.toNat).drop l.toNat)))
        | _,_=>False
    | _=>False
  | .fieldAddr s x f =>
    match (ty P s).kind,(ty P s).aN[f]? with
    | 3,some (off,_,size) =>
      0<size ∧
      match ev σ x with
      | .ptr id r c =>
        match σ.aa[id]? with
        | some .gone=>False
        | some _=>K (σ.put o.dst (.ptr id r (c+off)))
        | none=>False
      | .dz cells=>K (σ.put o.dst (.dz (cells.drop off)))
      | _=>False
    | _,_=>False
  | .field s x f =>
    match (ty P s).kind,(ty P s).aN[f]? with
    | 3,some (off,t,size) =>
      (ty P t).kind≠99∧size=(ty P t).size ∧
      match ev σ x with
      | .agg cs=>if (ty P t).isAgg then off+size≤cs.length∧K (σ.put o.dst (.agg ((cs.drop off).take size))) else
          match cs[off]? with
          | some v=>K (σ.put o.dst v)
          | none=>False
      | _=>False
    | _,_=>False
  | .indexAddr t x i =>
    match (ty P t).kind,ev σ x,ev σ i with
    | 1,.ref id sz off len,.lit (.int _ n) =>
      match σ.aa[id]? with
      | some (.arr cJ _)=>(cJ=sz∧sz=(ty P (ty P t).elem).size∧(ty P (ty P t).elem).kind≠99∧0≤n∧n<len)∧K (σ.put o.dst (.ptr id (off+n.toNat) 0))
      | _=>False
    | 1,.tree sz rows,.lit (.int _ n)=>(sz=(ty P (ty P t).elem).size∧(ty P (ty P t).elem).kind≠99∧0≤n∧n<rows.length)∧K (σ.put o.dst (.dz (rows.getD n.toNat [])))
    | 2,.ptr id r c,.lit (.int _ n) =>
      match σ.aa[id]? with
      | some .gone=>False
      | some _=>((ty P (ty P t).elem).kind≠99∧0≤n∧n<(ty P t).len)∧K (σ.put o.dst (.ptr id r (c+n.toNat * (ty P (ty P t).elem).size)))
      | none=>False
    | _,_,_=>False
  | .makeMap t r=>(r=none∧(ty P t).kind=8)∧K (({ σ with aa:=σ.aa++[.mp (zR P t) []] }:St).put o.dst (.fL σ.aa.length))
  | .lookup t x i ok =>
    match keyOf (ev σ i),lC σ (ev σ x),zeroV P (ty P t).elem with
    | some (ag,l),some (_,iA,L),some z=>(ko P t ag∧iA=ag∧l.length=jF ag∧(ty P t).kind=8∧ok=false)∧K (σ.put o.dst ((nH l L).getD (.lit z)))
    | _,_,_=>False
  | .mapUpdate t m k x =>
    match keyOf (ev σ k),lC σ (ev σ m) with
    | some (ag,l),some (id,iA,L)=>(ko P t ag∧iA=ag∧l.length=jF ag)∧K (({ σ with aa:=σ.aa.set id (.mp ag (dY l (ev σ x) L)) }:St).put o.dst .undef)
    | _,_=>False
  | .mapEntry t m k =>
    match keyOf (ev σ k),lC σ (ev σ m),zeroV P (ty P t).elem with
    | some (ag,l),some (id,iA,L),some z=>(ko P t ag∧iA=ag∧l.length=jF ag∧(ty P t).kind=8) ∧
      K (({ σ with aa:=σ.aa.set id (.mp ag (dY l ((nH l L).getD (.lit z)) L)) }:St).put o.dst (.bM [(nH l L).getD (.lit z),.lit (.int .i64 (tB l L:Nat))]))
    | _,_,_=>False
  | .entryStore _ m s x =>
    match ev σ s,lC σ (ev σ m) with
    | .lit (.int .i64 n),some (id,ag,L)=>(0≤n∧n<L.length)∧K (({ σ with aa:=σ.aa.set id (.mp ag (nI n.toNat (ev σ x) L)) }:St).put o.dst .undef)
    | _,_=>False
  | .index t x i =>
    match ev σ x,ev σ i with
    | .lit (.string s),.lit (.int _ n)=>(P.underlying t=some .string∧0≤n∧n<s.size)∧K (σ.put o.dst (.lit (.int .u8 (Ht s n.toNat))))
    | _,_=>False
  | .makeInterface t x=>uQ P t=false∧K (σ.put o.dst (.er t (ev σ x)))
  | .typeAssert x _ asserted ok =>
    match ev σ x with
    | .er t v=>(uQ P asserted=false∧t=asserted∧ok=false)∧K (σ.put o.dst v)
    | _=>False
  | .extract x i =>
    match ev σ x with
    | .bM vs =>
      match vs[i]? with
      | some v=>K (σ.put o.dst v)
      | none=>False
    | _=>False
  | .call { callee:=.builtin .len,args,argTypes } =>
    match args.toList,argTypes.toList with
    | [x],[t] =>
      match ev σ x with
      | .ref id sz _ len =>
        (ty P t).kind=1 ∧
        match σ.aa[id]? with
        | some (.arr cJ _)=>cJ=sz∧K (σ.put o.dst (.lit (.int .i64 len)))
        | _=>False
      | .tree _ rows=>(ty P t).kind=1∧K (σ.put o.dst (.lit (.int .i64 rows.length)))
      | .lit (.slice none 0 0)=>(ty P t).kind=1∧K (σ.put o.dst (.lit (.int .i64 0)))
      | .fL id =>
        (ty P t).kind=8 ∧
        match σ.aa[id]? with
        | some (.mp _ L)=>K (σ.put o.dst (.lit (.int .i64 L.length)))
        | _=>False
      | _=>False
    | _,_=>False
  | .call { callee:=.builtin .append,args,argTypes } =>
    match args.toList,argTypes.toList with
    | [s,x],[t,t'] =>
      match (ty P t).kind,(ty P (ty P t).elem).zero,p8 σ (ty P (ty P t).elem).size (ev σ s),nJ σ (ev σ x) with
      | 1,some z,some (pre,σ1),some (sz,src) =>
        (t'=t∧(ty P (ty P t).elem).kind≠99∧sz=(ty P (ty P t).elem).size∧0<sz∧z.length=sz∧pre.length+src.length≤549755813888∧(ty P (ty P t).elem).bytes≤128∧(src.all fun row=>row.all cm)=true) ∧
          K (({ σ1 with aa:=σ1.aa++[.arr sz (pre++src)] }:St).put o.dst (.ref σ1.aa.length sz 0 (pre.length+src.length)))
      | _,_,_,_=>False
    | _,_=>False
  | .call { callee:=.builtin .min,args,argTypes:=_ } =>
    match args.toList with
    | [x,y] =>
      match ev σ x,ev σ y with
      | .lit (.int k a),.lit (.int k' b)=>k=k'∧K (σ.put o.dst (.lit (.int k (min a b))))
      | _,_=>False
    | _=>False
  | .call { callee:=.builtin .max,args,argTypes:=_ } =>
    match args.toList with
    | [x,y] =>
      match ev σ x,ev σ y with
      | .lit (.int k a),.lit (.int k' b)=>k=k'∧K (σ.put o.dst (.lit (.int k (max a b))))
      | _,_=>False
    | _=>False
  | .call { callee:=.builtin .copy,args,argTypes } =>
    match args.toList,argTypes.toList with
    | [s,x],[t,_] =>
      match ev σ s,nJ σ (ev σ x) with
      | .ref id sz off len,some (cJ,src) =>
        match σ.aa[id]? with
        | some (.arr kq rows) =>
          ((ty P t).kind=1∧(ty P (ty P t).elem).kind≠99∧cJ=sz∧kq=sz∧sz=(ty P (ty P t).elem).size∧0<sz∧(src.all fun row=>row.all cm)=true) ∧
            K (({ σ with aa:=σ.aa.set id (.arr sz (rows.take off++src.take (min src.length len)++rows.drop (off+min src.length len))) }:St).put o.dst (.lit (.int .i64 (min src.length len:Nat))))
        | _=>False
      | _,_=>False
    | _,_=>False
  | .call { callee:=.builtin .clear,args,argTypes } =>
    match args.toList,argTypes.toList with
    | [s],[t] =>
      match ev σ s,(ty P (ty P t).elem).zero with
      | .ref id sz off len,some z =>
        match σ.aa[id]? with
        | some (.arr cJ rows) =>
          ((ty P t).kind=1∧(ty P (ty P t).elem).kind≠99∧cJ=sz∧z.length=sz∧0<sz∧(z.all fun u=>u.oneCell')=true) ∧
            K (({ σ with aa:=σ.aa.set id (.arr sz (rows.take off++aW len (z.map AV.lit)++rows.drop (off+len))) }:St).put o.dst (.lit (.tuple #[])))
        | _=>False
      | _,_=>False
    | _,_=>False
  | .convert s d x =>
    match P.underlying d,ev σ x with
    | some (.int k),.lit (.int _ n)=>(P.underlying s).isSome=true∧K (σ.put o.dst (.lit (.int k (k.wrap n))))
    | _,_=>False
  | _=>False
end Go.Am

