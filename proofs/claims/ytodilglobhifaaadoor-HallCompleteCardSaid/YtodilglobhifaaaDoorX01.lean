import Derived.Test.YtodilglobhifaaaDoorX00
import Derived.Orders
import Derived.Laws.AppendOwn
import Derived.Laws.MakeOwn
import Derived.Laws.Slices
import Derived.Laws.Small
set_option linter.all false
set_option maxHeartbeats 0
set_option maxRecDepth 20000
open Nat renaming le_refl→aH,le_trans→jN,lt_of_lt_of_le→Af,ne_of_lt→hJ,lt_or_ge→cZ
open List renaming getElem?_eq_some_iff→aF,getElem?_append_left→bL,getElem?_set→bM,replicate→aw
open Array renaming getD_eq_getD_getElem?→cT,getElem?_eq_some_iff→jJ
namespace Go.Am
inductive AV where
 |undef
 |lit (v:Value)
 |tree (sz:Nat) (rows:List (List AV))
 |bO (cells:List AV)
 |ref (id sz off len:Nat)
 |ptr (id r c:Nat)
 |agg (cs:List AV)
 |bA (vs:List AV)
 |fn (f:FuncId) (bC:List AV)
 |dW (t:TypeId) (v:AV)
 |cJ (id:Nat)
 deriving Inhabited
abbrev UX(n:Int):AV:=.lit (.int .i64 n)
inductive Ob where
 |gone
 |var (cells:List AV)
 |arr (sz:Nat) (rows:List (List AV))
 |mp (ag:Nat) (L:List (List Int×AV))
 deriving Inhabited
structure St where
 env:Nat->AV
 aa:List Ob
def fc(e:Nat->AV)(d:Nat)(v:AV):Nat->AV:=λk=>if k=d then v else e k
def cellAt(rows:List (List AV))(r c:Nat):Option AV:=(rows[r]?).bind (·[c]?)
def dz(eN:List (Value×Value)):Array MapEntry:=(eN.mapIdx λi p=>(⟨p.1,p.2,i⟩:MapEntry)).toArray
def kV(ag:Nat)(l:List Int):Value:=if ag=0 then .int .i64 (l.headD 0) else .agg (l.map λn=>.int .i64 n).toArray
def e8(ag:Nat):Nat:=if ag=0 then 1 else ag
def bQ(ag:Nat)(f:Nat->Value)(L:List (List Int×AV)):List (Value×Value):=L.mapIdx λj p=>(kV ag p.1,f j)
def A2(ag:Nat)(f:Nat->Value)(g:AV->AV)(L:List (List Int×AV)):bQ ag f (L.map λp=>(p.1,g p.2))=bQ ag f L:=by
 unfold bQ;apply List.ext_getElem
 ·simp
 ·intros;simp
abbrev dK:=Nat->Option (Nat×Nat×Nat)
inductive dY(w:World)(Z:Nat->Prop):AV->Value->Prop where
 |lit (v:Value):dY w Z (.lit v) v
 |nil (sz cap:Nat) (a:Option Addr):dY w Z (.tree sz []) (.slice a 0 cap)
 |tree (sz:Nat) (rows:List (List AV)) (b o cap:Nat) (f:Nat->Nat->Value) (hz:Z b) (hr:∀ row∈rows,row.length=sz) (Bz:rows.length<=cap)
   (hc:∀ r c x,cellAt rows r c=some x->w.cell? ⟨b,o+(r*sz+c),none⟩=some (f r c))
   (ht:∀ r c x,cellAt rows r c=some x->dY w Z x (f r c)):dY w Z (.tree sz rows) (.slice (some ⟨b,o,none⟩) rows.length cap)
inductive ah(os:List Ob)(w:World)(Z:Nat->Prop)(blk:dK):AV->Value->Prop where
 |undef (cv:Value):ah os w Z blk .undef cv
 |bp (v:AV) (cv:Value) (h:dY w Z v cv):ah os w Z blk v cv
 |bO (cells:List AV) (b o:Nat) (f:Nat->Value) (hz:Z b) (hc:∀ j x,cells[j]?=some x->w.cell? ⟨b,o+j,none⟩=some (f j))
   (ht:∀ j x,cells[j]?=some x->dY w Z x (f j)):ah os w Z blk (.bO cells) (.pointer (some ⟨b,o,none⟩))
 |ga (id sz off len:Nat) (cv:Value) (h:os[id]?=some .gone) (h1:cv.oneCell'=true):ah os w Z blk (.ref id sz off len) cv
 |iG (id r c:Nat) (cv:Value) (h:os[id]?=some .gone) (h1:cv.oneCell'=true):ah os w Z blk (.ptr id r c) cv
 |ref (id sz off len b o cap cap':Nat) (rows:List (List AV)) (h:os[id]?=some (.arr sz rows)) (hb:blk id=some (b,o,cap))
   (hl:off+len<=rows.length) (hc:off+cap'<=cap) (ed:len<=cap'):ah os w Z blk (.ref id sz off len) (.slice (some ⟨b,o+off*sz,none⟩) len cap')
 |gP (id sz:Nat) (h:os[id]?=some (.arr sz [])) (hb:blk id=none):ah os w Z blk (.ref id sz 0 0) (.slice none 0 0)
 |iq (id sz off b x:Nat) (bo:Nat×Nat) (rows:List (List AV)) (h:os[id]?=some (.arr sz rows)) (hb:blk id=some (b,bo)) (hl:off<=rows.length) :
   ah os w Z blk (.ref id sz off 0) (.slice (some ⟨b,x,none⟩) 0 0)
 |iW (id c b cap:Nat) (cells:List AV) (h:os[id]?=some (.var cells)) (hb:blk id=some (b,0,cap)):ah os w Z blk (.ptr id 0 c) (.pointer (some ⟨b,c,none⟩))
 |jA (id r c sz b o cap:Nat) (rows:List (List AV)) (h:os[id]?=some (.arr sz rows)) (hb:blk id=some (b,o,cap)) :
   ah os w Z blk (.ptr id r c) (.pointer (some ⟨b,o+(r*sz+c),none⟩))
 |agg (cs:List AV) (aB:Array Value) (hs:aB.size=cs.length) (h:∀ j x,cs[j]?=some x->ah os w Z blk x (aB.getD j Go.undef)):ah os w Z blk (.agg cs) (.agg aB)
 |bA (cs:List AV) (aB:Array Value) (hs:aB.size=cs.length) (h:∀ j x,cs[j]?=some x->ah os w Z blk x (aB.getD j Go.undef)):ah os w Z blk (.bA cs) (.tuple aB)
 |fn (f:FuncId) (cs:List AV) (aB:Array Value) (hs:aB.size=cs.length) (h:∀ j x,cs[j]?=some x->ah os w Z blk x (aB.getD j Go.undef)) :
   ah os w Z blk (.fn f cs) (.func (.func f) #[] aB)
 |dW (t:TypeId) (v:AV) (cv:Value) (h:ah os w Z blk v cv):ah os w Z blk (.dW t v) (.iface t cv)
 |cJ (id b:Nat) (ag:Nat) (L:List (List Int×AV)) (h:os[id]?=some (.mp ag L)) (hb:blk id=some (b,0,0)):ah os w Z blk (.cJ id) (.map (some b))
 |k8 (id:Nat) (cv:Value) (h:os[id]?=some .gone) (h1:cv.oneCell'=true):ah os w Z blk (.cJ id) cv
def rK (os:List Ob) (w:World) (Z:Nat->Prop) (blk:dK) (i:Nat):Ob->Prop
  | .gone=>True
  | .var cells=>∃ b cap cur t,blk i=some (b,0,cap)/\w.heap[b]?=some (.cells cur t (0,0))/\cur.size=cells.length /\
      ∀ c v,cells[c]?=some v->ah os w Z blk v (cur.getD c Go.undef)
  | .arr sz rows=>0<sz/\(∀ row∈rows,row.length=sz) /\
      ((blk i=none/\rows=[])\/∃ b o cap cur t,blk i=some (b,o,cap)/\w.heap[b]?=some (.cells cur t (0,0))/\o+cap * sz<=cur.size/\rows.length<=cap/\cap<=maxLen /\
        ∀ r c v,cellAt rows r c=some v->ah os w Z blk v (cur.getD (o+(r * sz+c)) Go.undef))
  | .mp ag L=>∃ b,∃ f:Nat->Value,blk i=some (b,0,0)/\w.heap[b]?=some (.map (dz (bQ ag f L)) L.length)/\(∀ p∈L,p.1.length=e8 ag)/\∀ (j:Nat) p,L[j]?=some p->ah os w Z blk p.2 (f j)
def ov(g:Nat):AV :=
 match uK.lookup g with
 |some cs=>.bO (cs.map .lit)
 |none=>.undef
structure Cx where
 w:World
 tmps:Array Value
 Z:Nat->Prop
 blk:dK
def Live(os:List Ob)(i:Nat):Prop:=∃ o,os[i]?=some o/\o≠.gone
def j4(os:List Ob)(blk:dK)(b:Nat):Prop:=∃ i o cap,Live os i/\blk i=some (b,o,cap)
structure aK(σ:St)(γ:Cx):Prop where
 ax:∀ k,ah σ.aa γ.w γ.Z γ.blk (σ.env k) (γ.tmps.getD k Go.undef)
 c9:∀ (i:Nat) o,σ.aa[i]?=some o->rK σ.aa γ.w γ.Z γ.blk i o
 inj:∀ i j b o c o' c',Live σ.aa i->Live σ.aa j->γ.blk i=some (b,o,c)->γ.blk j=some (b,o',c')->i=j
 nz:∀ b,j4 σ.aa γ.blk b->¬ γ.Z b
 eF:∀ b,γ.Z b->b<γ.w.heap.size
 gl:∀ g,ah σ.aa γ.w γ.Z γ.blk (ov g) (.pointer (some ⟨g,0,none⟩))
def Ob.cA:Ob->Ob->Prop
 |.var a,.var b=>a.length=b.length
 |.arr s a,.arr s' b=>s=s'/\a.length=b.length
 |.mp a _,.mp b _=>a=b
 |_,_=>False
def Ob.fv{o:Ob}(h:o≠.gone):o.cA o:=by
 cases o<;>simp_all [Ob.cA]
def Ob.Fe{a b c:Ob}(h:a.cA b)(k:b.cA c):a.cA c:=by
 cases a<;>cases b<;>cases c<;>simp_all [Ob.cA]
def Ob.O8{a b:Ob}(h:a.cA b):a≠.gone/\b≠.gone:=by
 cases a<;>cases b<;>simp_all [Ob.cA]
structure Fr(tC:List Ob)(kF:Cx)(os:List Ob)(γ:Cx):Prop where
 ij:γ.w.os=kF.w.os
 tape:γ.w.tape=kF.w.tape
 output:γ.w.output=kF.w.output
 size:kF.w.heap.size<=γ.w.heap.size
 cg:∀ b,b<kF.w.heap.size->¬ j4 tC kF.blk b->γ.w.heap[b]?=kF.w.heap[b]?
 z0:∀ b,kF.Z b->γ.Z b
 z1:∀ b,γ.Z b->kF.Z b\/j4 tC kF.blk b\/kF.w.heap.size<=b
 own:∀ b,j4 os γ.blk b->j4 tC kF.blk b\/kF.w.heap.size<=b
 len:tC.length<=os.length
 gf:∀ i,i<tC.length->Live os i->γ.blk i=kF.blk i/\∃ o o',tC[i]?=some o/\os[i]?=some o'/\o.cA o'
def Fr.refl(os:List Ob)(γ:Cx):Fr os γ os γ :=
 ⟨rfl,rfl,rfl,aH _,λ_ _ _=>rfl,λ_ h=>h,λ_ h=>.inl h,λ_ h=>.inl h,aH _,λ_ _ ⟨o,ho,hg⟩=>⟨rfl,o,o,ho,ho,Ob.fv hg⟩⟩
def Fr.trans{a b c:List Ob}{x y z:Cx}(h:Fr a x b y)(k:Fr b y c z):Fr a x c z where
 ij:=k.ij.trans h.ij
 tape:=k.tape.trans h.tape
 output:=k.output.trans h.output
 size:=jN h.size k.size
 cg:=λn hn ho=>(k.cg n (Af hn h.size) (λhw=>(h.own n hw).elim ho (λhl=>z8))).trans (h.cg n hn ho)
 z0:=λn hn=>k.z0 n (h.z0 n hn)
 z1:=λn hn=>by
  rcases k.z1 n hn with h1|h1|h1
  ·exact h.z1 n h1
  ·rcases h.own n h1 with h2|h2
   ·exact .inr (.inl h2)
   ·exact .inr (.inr h2)
  ·exact .inr (.inr (jN h.size h1))
 own:=λn hn=>by
  rcases k.own n hn with h1|h1
  ·exact h.own n h1
  ·exact .inr (jN h.size h1)
 len:=jN h.len k.len
 gf:=λi hi hl=>by
  obtain⟨h1,o,o',ho,bW,hk⟩:=k.gf i (Af hi h.len) hl;obtain⟨h3,x,x',hx,bF,aQ⟩:=h.gf i hi ⟨o,ho,(Ob.O8 hk).1⟩;rw[ho]at bF;simp at bF;subst bF;exact⟨h1.trans h3,x,o',hx,bW,Ob.Fe aQ hk⟩
def BK{w w':World}{b o:Nat}(h:w'.heap[b]?=w.heap[b]?):w'.cell? ⟨b,o,none⟩=w.cell? ⟨b,o,none⟩:=by
 simp[World.cell?,h]
def dY.mono{w w':World}{Z Z':Nat->Prop}{v:AV}{cv:Value}(h:dY w Z v cv)(hz:∀ b,Z b->Z' b/\w'.heap[b]?=w.heap[b]?):dY w' Z' v cv:=by
 induction h with
 |lit v=>exact .lit v
 |nil sz cap a=>exact .nil sz cap a
 |tree sz rows b o cap f lQ hr Bz hc _ ih =>
  exact .tree sz rows b o cap f (hz b lQ).1 hr Bz (λr c x hx=>by rw[BK (hz b lQ).2];exact hc r c x hx) ih
def ah.mono{os os':List Ob}{w w':World}{Z Z':Nat->Prop}{blk fA:dK}{v:AV}{cv:Value}(h:ah os w Z blk v cv)(hz:∀ b,Z b->Z' b/\w'.heap[b]?=w.heap[b]?)(ho:∀ i o,os[i]?=some o->os'[i]?=some .gone\/(fA i=blk i/\∃ o',os'[i]?=some o'/\o.cA o')):ah os' w' Z' fA v cv:=by
 induction h with
 |undef cv=>exact .undef cv
 |bp v cv h=>exact .bp v cv (h.mono hz)
 |bO cells b o f lQ hc ht =>
  exact .bO cells b o f (hz b lQ).1 (λj x hx=>by rw[BK (hz b lQ).2];exact hc j x hx) (λj x hx=>(ht j x hx).mono hz)
 |ga id sz off len cv h h1 =>
  rcases ho id _ h with h'|⟨_,o',_,hl⟩
  ·exact .ga id sz off len cv h' h1
  ·exact absurd hl (by simp[Ob.cA])
 |iG id r c cv h h1 =>
  rcases ho id _ h with h'|⟨_,o',_,hl⟩
  ·exact .iG id r c cv h' h1
  ·exact absurd hl (by simp[Ob.cA])
 |ref id sz off len b o cap cap' rows h hb hl hc ed =>
  rcases ho id _ h with h'|⟨dr,o',bW,hk⟩
  ·exact .ga _ _ _ _ _ h' rfl
  ·cases o'<;>simp[Ob.cA]at hk;obtain⟨rfl,hk⟩:=hk;exact .ref id sz off len b o cap cap' _ bW (dr.trans hb) z8 hc ed
 |gP id sz h hb =>
  rcases ho id _ h with h'|⟨dr,o',bW,hk⟩
  ·exact .ga _ _ _ _ _ h' rfl
  ·cases o'<;>simp[Ob.cA]at hk;obtain⟨rfl,hk⟩:=hk;have aQ:=List.eq_nil_of_length_eq_zero hk.symm;subst aQ;exact .gP id sz bW (dr.trans hb)
 |iq id sz off b x bo rows h hb hl =>
  rcases ho id _ h with h'|⟨dr,o',bW,hk⟩
  ·exact .ga _ _ _ _ _ h' rfl
  ·cases o'<;>simp[Ob.cA]at hk;obtain⟨rfl,hk⟩:=hk;exact .iq id sz off b x bo _ bW (dr.trans hb) z8
 |iW id c b cap cells h hb =>
  rcases ho id _ h with h'|⟨dr,o',bW,hk⟩
  ·exact .iG _ _ _ _ h' rfl
  ·cases o'<;>simp[Ob.cA]at hk;exact .iW id c b cap _ bW (dr.trans hb)
 |jA id r c sz b o cap rows h hb =>
  rcases ho id _ h with h'|⟨dr,o',bW,hk⟩
  ·exact .iG _ _ _ _ h' rfl
  ·cases o'<;>simp[Ob.cA]at hk;obtain⟨rfl,hk⟩:=hk;exact .jA id r c sz b o cap _ bW (dr.trans hb)
 |agg cs aB hs _ ih=>exact .agg cs aB hs ih
 |bA cs aB hs _ ih=>exact .bA cs aB hs ih
 |fn f cs aB hs _ ih=>exact .fn f cs aB hs ih
 |dW t v cv _ ih=>exact .dW t v cv ih
 |cJ id b ag L h hb =>
  rcases ho id _ h with h'|⟨dr,o',bW,hk⟩
  ·exact .k8 _ _ h' rfl
  ·cases o'<;>simp[Ob.cA]at hk;subst hk;exact .cJ id b _ _ bW (dr.trans hb)
 |k8 id cv h h1 =>
  rcases ho id _ h with h'|⟨_,o',bW,hk⟩
  ·exact .k8 _ _ h' h1
  ·cases o'<;>simp[Ob.cA]at hk
def rf{os os':List Ob}{w w':World}{Z Z':Nat->Prop}{blk fA:dK}{g:Nat}{cv:Value}(h:ah os w Z blk (ov g) cv)(hz:∀ b,Z b->Z' b/\w'.heap[b]?=w.heap[b]?):ah os' w' Z' fA (ov g) cv:=by
 unfold ov at h ⊢;generalize uK.lookup g=l at h ⊢;cases l with
 |none=>exact .undef _
 |some cs =>
  dsimp only at h ⊢;cases h with
  |bp _ _ h=>cases h
  |bO cells b o f lQ hc ht=>exact .bO _ b o f (hz b lQ).1 (λj x hx=>by rw[BK (hz b lQ).2];exact hc j x hx) (λj x hx=>(ht j x hx).mono hz)
def Live.lt{os:List Ob}{i:Nat}(h:Live os i):i<os.length:=by
 obtain⟨o,ho,_⟩:=h;exact(aF.1 ho).1
def ah.same{os:List Ob}{w w':World}{Z:Nat->Prop}{blk:dK}{v:AV}{cv:Value}(h:ah os w Z blk v cv)(hw:w'.heap=w.heap):ah os w' Z blk v cv :=
 h.mono (λb hb=>⟨hb,by rw[hw]⟩) (λi o ho=>by
  by_cases hg:o=.gone
  ·subst hg;exact .inl ho
  ·exact .inr ⟨rfl,o,ho,Ob.fv hg⟩)
def rK.mono{os os':List Ob}{w w':World}{Z Z':Nat->Prop}{blk fA:dK}{i:Nat}{o:Ob}(h:rK os w Z blk i o)(hR:∀ v cv,ah os w Z blk v cv->ah os' w' Z' fA v cv)(hb:fA i=blk i)(hk:∀ b o c,blk i=some (b,o,c)->w'.heap[b]?=w.heap[b]?):rK os' w' Z' fA i o:=by
 cases o with
 |gone=>trivial
 |var cells =>
  obtain⟨b,cap,cur,t,h1,h2,h3,h4⟩:=h;exact⟨b,cap,cur,t,hb.trans h1,(hk _ _ _ h1).trans h2,h3,λc v hv=>hR _ _ (h4 c v hv)⟩
 |arr sz rows =>
  obtain⟨h0,hr,h⟩:=h;refine⟨h0,hr,?_⟩;rcases h with⟨h1,h2⟩|⟨b,o,cap,cur,t,h1,h2,h3,h4,h5,h6⟩
  ·exact .inl ⟨hb.trans h1,h2⟩
  ·exact .inr ⟨b,o,cap,cur,t,hb.trans h1,(hk _ _ _ h1).trans h2,h3,h4,h5,λr c v hv=>hR _ _ (h6 r c v hv)⟩
 |mp ag L =>
  obtain⟨b,f,h1,h2,h3,h4⟩:=h;exact⟨b,f,hb.trans h1,(hk _ _ _ h1).trans h2,h3,λj p hp=>hR _ _ (h4 j p hp)⟩
def aK.put{σ:St}{γ:Cx}(h:aK σ γ)(d:Nat)(hd:d<γ.tmps.size){v:AV}{cv:Value}(hv:ah σ.aa γ.w γ.Z γ.blk v cv):
  aK { σ with env:=fc σ.env d v } { γ with tmps:=γ.tmps.setIfInBounds d cv } where
 ax:=λk=>by
  simp only[fc];by_cases hk:k=d
  ·subst hk;simp[cT,hd];exact hv
  ·simp only[hk,if_false,cT,Array.getElem?_setIfInBounds_ne (Ne.symm hk)];have:=h.ax k;simpa [cT] using this
 c9:=h.c9
 inj:=h.inj
 nz:=h.nz
 eF:=h.eF
 gl:=h.gl
def aK.A9{σ:St}{γ:Cx}(h:aK σ γ){w':World}(hw:w'.heap=γ.w.heap):aK σ { γ with w:=w' } where
 ax:=λk=>(h.ax k).same hw
 c9:=λi o ho=>(h.c9 i o ho).mono (λv cv hv=>hv.same hw) rfl (λb _ _ _=>by rw[hw])
 inj:=h.inj
 nz:=h.nz
 eF:=λb hb=>by have:=h.eF b hb;simpa [hw] using this
 gl:=λg=>(h.gl g).same hw
def Fr.A9{a b:List Ob}{x y:Cx}(h:Fr a x b y){w':World}(hw:w'.heap=y.w.heap)(h1:w'.os=y.w.os)(h2:w'.tape=y.w.tape)(h3:w'.output=y.w.output):
  Fr a x b { y with w:=w' } :=
 h.trans ⟨h1,h2,h3,by simp[hw],λ_ _ _=>by simp[hw],λ_ h=>h,λ_ h=>.inl h,λ_ h=>.inl h,aH _,λ_ _ ⟨o,ho,hg⟩=>⟨rfl,o,o,ho,ho,Ob.fv hg⟩⟩
def Fr.put{a b:List Ob}{x y:Cx}(h:Fr a x b y)(t:Array Value):Fr a x b { y with tmps:=t }:=⟨h.ij,h.tape,h.output,h.size,h.cg,h.z0,h.z1,h.own,h.len,h.gf⟩
def bE(blk:dK)(n:Nat)(x:Option (Nat×Nat×Nat)):dK:=λi=>if i=n then x else blk i
def mH(os:List Ob)(w:World)(Z:Nat->Prop)(blk:dK)(o cap:Nat)(cur:Array Value):Ob->Prop
 |.gone=>True
 |.var cells=>o=0/\cur.size=cells.length/\∀ c v,cells[c]?=some v->ah os w Z blk v (cur.getD c Go.undef)
 |.arr sz rows=>0<sz/\(∀ row∈rows,row.length=sz)/\o+cap*sz<=cur.size/\rows.length<=cap/\cap<=maxLen /\
    ∀ r c v,cellAt rows r c=some v->ah os w Z blk v (cur.getD (o+(r*sz+c)) Go.undef)
 |.mp _ _=>False
def mH.By{os os':List Ob}{w w':World}{Z Z':Nat->Prop}{blk fA:dK}{i b o cap:Nat}{cur:Array Value}{t:TypeId}{ob:Ob}(h:mH os w Z blk o cap cur ob)(hR:∀ v cv,ah os w Z blk v cv->ah os' w' Z' fA v cv)(hb:fA i=some (b,o,cap))(hk:w'.heap[b]?=some (.cells cur t (0,0))):rK os' w' Z' fA i ob:=by
 cases ob with
 |gone=>trivial
 |var cells =>
  obtain⟨h0,h1,h2⟩:=h;subst h0;exact⟨b,cap,cur,t,hb,hk,h1,λc v hv=>hR _ _ (h2 c v hv)⟩
 |arr sz rows =>
  obtain⟨h0,h1,h2,h3,h4,h5⟩:=h;exact⟨h0,h1,.inr ⟨b,o,cap,cur,t,hb,hk,h2,h3,h4,λr c v hv=>hR _ _ (h5 r c v hv)⟩⟩
 |mp ag L=>exact h.elim
def aK.vb{σ:St}{γ:Cx}(h:aK σ γ){w':World}{x:Obj}{cap:Nat}{ob:Ob}(hw:w'.heap=γ.w.heap.push x)(aS:∀ os' w' fA,(∀ v cv,ah σ.aa γ.w γ.Z γ.blk v cv->ah os' w' γ.Z fA v cv)->fA σ.aa.length=some (γ.w.heap.size,0,cap)->w'.heap[γ.w.heap.size]?=some x->rK os' w' γ.Z fA σ.aa.length ob):
  aK { σ with aa:=σ.aa++[ob] } { γ with w:=w',blk:=bE γ.blk σ.aa.length (some (γ.w.heap.size,0,cap)) }:=by
 have aZ:∀ b,b<γ.w.heap.size->w'.heap[b]?=γ.w.heap[b]?:=λb hb=>by
  rw[hw,Array.getElem?_push,if_neg z8]
 have hR:∀ v cv,ah σ.aa γ.w γ.Z γ.blk v cv->ah (σ.aa++[ob]) w' γ.Z (bE γ.blk σ.aa.length (some (γ.w.heap.size,0,cap))) v cv:=λv cv hv =>
  hv.mono (λb hb=>⟨hb,aZ b (h.eF b hb)⟩) (λi o ho=>by
   have hi:i<σ.aa.length:=(aF.1 ho).1;have bW:(σ.aa++[ob])[i]?=some o:=by rw[bL hi];exact ho
   by_cases bK:o=.gone
   ·subst bK;exact .inl bW
   ·exact .inr ⟨by simp[bE,hJ hi],o,bW,Ob.fv bK⟩)
 have bc:∀ i,Live (σ.aa++[ob]) i->i=σ.aa.length\/Live σ.aa i:=by
  rintro i⟨o,ho,bK⟩;rcases cZ i σ.aa.length with hi|hi
  ·rw[bL hi]at ho;exact .inr ⟨o,ho,bK⟩
  ·left;have:=(aF.1 ho).1;simp at this;omega
 have nF:∀ i b o c,Live σ.aa i->γ.blk i=some (b,o,c)->b<γ.w.heap.size:=by
  rintro i b o c⟨x,hx,da⟩hb;have:=h.c9 i x hx;cases x with
  |gone=>exact absurd rfl da
  |var cells =>
   obtain⟨b',cap',j6,t',h1,h2,_⟩:=this;rw[hb]at h1;simp at h1;obtain⟨rfl,_⟩:=h1;exact(jJ.1 h2).1
  |arr sz rows =>
   obtain⟨_,_,⟨h1,_⟩|⟨b',o',cap',j6,t',h1,h2,_⟩⟩:=this
   ·rw[hb]at h1;simp at h1
   ·rw[hb]at h1;simp at h1;obtain⟨rfl,_⟩:=h1;exact(jJ.1 h2).1
  |mp ag L =>
   obtain⟨b',f',h1,h2,_⟩:=this;rw[hb]at h1;simp at h1;obtain⟨rfl,_⟩:=h1;exact(jJ.1 h2).1
 refine⟨λk=>hR _ _ (h.ax k),?_,?_,?_,?_,λg=>hR _ _ (h.gl g)⟩
 ·intro i o ho;rcases cZ i σ.aa.length with hi|hi
  ·have bW:σ.aa[i]?=some o:=by rw[bL hi]at ho;exact ho
   by_cases bK:o=.gone
   ·subst bK;trivial
   ·refine(h.c9 i o bW).mono hR (by simp[bE,hJ hi]) (λb x c hb=>aZ b (nF i b x c ⟨o,bW,bK⟩ hb))
  ·have hi':i=σ.aa.length:=by
    have:=(aF.1 ho).1;simp at this;omega
   subst hi';simp at ho;subst ho;exact aS _ _ _ hR (by simp[bE]) (by rw[hw];simp)
 ·intro i j b o c o' c' hi hj dT dU;simp only[bE]at dT dU;rcases bc i hi with rfl|hi'<;>rcases bc j hj with rfl|iZ
  ·rfl
  ·rw[if_pos rfl]at dT;rw[if_neg (hJ iZ.lt)]at dU;have:=nF _ _ _ _ iZ dU;simp at dT;omega
  ·rw[if_pos rfl]at dU;rw[if_neg (hJ hi'.lt)]at dT;have:=nF _ _ _ _ hi' dT;simp at dU;omega
  ·rw[if_neg (hJ iZ.lt)]at dU;rw[if_neg (hJ hi'.lt)]at dT;exact h.inj i j b o c o' c' hi' iZ dT dU
 ·rintro b ⟨i,o,c,hi,hb⟩ hz;simp only[bE]at hb;rcases bc i hi with rfl|hi'
  ·rw[if_pos rfl]at hb;simp at hb;have:=h.eF b hz;omega
  ·rw[if_neg (hJ hi'.lt)]at hb;exact h.nz b ⟨i,o,c,hi',hb⟩ hz
 ·intro b hb;have:=h.eF b hb;rw[hw];simp;omega
def aK.push{σ:St}{γ:Cx}(h:aK σ γ){w':World}{cur:Array Value}{t:TypeId}{cap:Nat}{ob:Ob}(hw:w'.heap=γ.w.heap.push (.cells cur t (0,0)))(aS:mH σ.aa γ.w γ.Z γ.blk 0 cap cur ob):
  aK { σ with aa:=σ.aa++[ob] } { γ with w:=w',blk:=bE γ.blk σ.aa.length (some (γ.w.heap.size,0,cap)) } :=
 h.vb hw λ_ _ _ hR hb hk=>aS.By hR hb hk
def aK.blt{σ:St}{γ:Cx}(h:aK σ γ){i b o c:Nat}(hl:Live σ.aa i)(hb:γ.blk i=some (b,o,c)):b<γ.w.heap.size:=by
 obtain⟨x,hx,da⟩:=hl;have:=h.c9 i x hx;cases x with
 |gone=>exact absurd rfl da
 |var cells =>
  obtain⟨b',cap',j6,t',h1,h2,_⟩:=this;rw[hb]at h1;simp at h1;obtain⟨rfl,_⟩:=h1;exact(jJ.1 h2).1
 |arr sz rows =>
  obtain⟨_,_,⟨h1,_⟩|⟨b',o',cap',j6,t',h1,h2,_⟩⟩:=this
  ·rw[hb]at h1;simp at h1
  ·rw[hb]at h1;simp at h1;obtain⟨rfl,_⟩:=h1;exact(jJ.1 h2).1
 |mp ag L =>
  obtain⟨b',f',h1,h2,_⟩:=this;rw[hb]at h1;simp at h1;obtain⟨rfl,_⟩:=h1;exact(jJ.1 h2).1
def Fr.vb{σ:St}{γ:Cx}{w':World}{x0:Obj}{cap:Nat}(ob:Ob)(hw:w'.heap=γ.w.heap.push x0)(h1:w'.os=γ.w.os)(h2:w'.tape=γ.w.tape)(h3:w'.output=γ.w.output):
  Fr σ.aa γ (σ.aa++[ob]) { γ with w:=w',blk:=bE γ.blk σ.aa.length (some (γ.w.heap.size,0,cap)) } where
 ij:=h1
 tape:=h2
 output:=h3
 size:=by rw[hw];simp
 cg:=λb hb _=>by simp only[hw,Array.getElem?_push];rw[if_neg z8]
 z0:=λ_ h=>h
 z1:=λ_ h=>.inl h
 own:=by
  rintro b⟨i,o,c,⟨x,hx,da⟩,hb⟩;simp only[bE]at hb;split at hb
  ·simp at hb;right;omega
  ·rename_i bx;have hi:i<σ.aa.length:=by have:=(aF.1 hx).1;simp at this;omega
   rw[bL hi]at hx;exact .inl ⟨i,o,c,⟨x,hx,da⟩,hb⟩
 len:=Eb
 gf:=by
  rintro i hi⟨x,hx,da⟩;have hx0:=hx;rw[bL hi]at hx;exact⟨by simp[bE,hJ hi],x,x,hx,hx0,Ob.fv da⟩
def Fr.push{σ:St}{γ:Cx}{w':World}{cur:Array Value}{t:TypeId}{cap:Nat}(ob:Ob)(hw:w'.heap=γ.w.heap.push (.cells cur t (0,0)))(h1:w'.os=γ.w.os)(h2:w'.tape=γ.w.tape)(h3:w'.output=γ.w.output):
  Fr σ.aa γ (σ.aa++[ob]) { γ with w:=w',blk:=bE γ.blk σ.aa.length (some (γ.w.heap.size,0,cap)) }:=Fr.vb ob hw h1 h2 h3
def aK.kill{σ:St}{γ:Cx}(h:aK σ γ)(id:Nat):aK { σ with aa:=σ.aa.set id .gone } γ:=by
 have hR:∀ v cv,ah σ.aa γ.w γ.Z γ.blk v cv->ah (σ.aa.set id .gone) γ.w γ.Z γ.blk v cv:=λv cv hv =>
  hv.mono (λb hb=>⟨hb,rfl⟩) (λi o ho=>by
   have hi:i<σ.aa.length:=(aF.1 ho).1;rw[bM];by_cases iJ:id=i
   ·left;simp[iJ,hi]
   ·rw[if_neg iJ];by_cases bK:o=.gone
    ·subst bK;exact .inl ho
    ·exact .inr ⟨rfl,o,ho,Ob.fv bK⟩)
 have bc:∀ i,Live (σ.aa.set id .gone) i->Live σ.aa i:=by
  rintro i⟨o,ho,bK⟩;rw[bM]at ho;split at ho
  ·split at ho<;>simp at ho;exact absurd ho.symm bK
  ·exact⟨o,ho,bK⟩
 refine⟨λk=>hR _ _ (h.ax k),?_,λi j b o c o' c' hi hj=>h.inj i j b o c o' c' (bc i hi) (bc j hj),?_,h.eF,λg=>hR _ _ (h.gl g)⟩
 ·intro i o ho;rw[bM]at ho;split at ho
  ·split at ho<;>simp at ho;subst ho;trivial
  ·exact(h.c9 i o ho).mono hR rfl (λ_ _ _ _=>rfl)
 ·rintro b ⟨i,o,c,hi,hb⟩;exact h.nz b ⟨i,o,c,bc i hi,hb⟩
def Fr.kill(os:List Ob)(γ:Cx)(id:Nat):Fr os γ (os.set id .gone) γ where
 ij:=rfl
 tape:=rfl
 output:=rfl
 size:=aH _
 cg:=λ_ _ _=>rfl
 z0:=λ_ h=>h
 z1:=λ_ h=>.inl h
 own:=by
  rintro b⟨i,o,c,⟨x,hx,da⟩,hb⟩;rw[bM]at hx;split at hx
  ·split at hx<;>simp at hx;exact absurd hx.symm da
  ·exact .inl ⟨i,o,c,⟨x,hx,da⟩,hb⟩
 len:=Eb
 gf:=by
  rintro i hi⟨x,hx,da⟩;have hx0:=hx;rw[bM]at hx;split at hx
  ·split at hx<;>simp at hx;exact absurd hx.symm da
  ·exact⟨rfl,x,x,hx,hx0,Ob.fv da⟩
def aK.yl{σ:St}{γ:Cx}(h:aK σ γ){id:Nat}{ob ob':Ob}(ho:σ.aa[id]?=some ob)(hg:ob≠.gone)(j5:ob.cA ob'){b o cap:Nat}(hb:γ.blk id=some (b,o,cap)){w':World}(jE:∀ k,k≠b->w'.heap[k]?=γ.w.heap[k]?)(ay:w'.heap.size=γ.w.heap.size)(aS:∀ os',(∀ v cv,ah σ.aa γ.w γ.Z γ.blk v cv->ah os' w' γ.Z γ.blk v cv)->rK os' w' γ.Z γ.blk id ob'):aK { σ with aa:=σ.aa.set id ob' } { γ with w:=w' }:=by
 have bZ:id<σ.aa.length:=(aF.1 ho).1;have iv:Live σ.aa id:=⟨ob,ho,hg⟩;have aW:ob'≠.gone:=by intro e;subst e;cases ob<;>simp[Ob.cA]at j5
 have hR:∀ v cv,ah σ.aa γ.w γ.Z γ.blk v cv->ah (σ.aa.set id ob') w' γ.Z γ.blk v cv:=λv cv hv =>
  hv.mono (λz hz=>⟨hz,jE z (λe=>h.nz b ⟨id,o,cap,iv,hb⟩ (e▸hz))⟩) (λi x hx=>by
   rw[bM];by_cases iJ:id=i
   ·subst iJ;rw[ho]at hx;simp at hx;subst hx;right;refine⟨rfl,ob',by simp[bZ],j5⟩
   ·rw[if_neg iJ];by_cases bK:x=.gone
    ·subst bK;exact .inl hx
    ·exact .inr ⟨rfl,x,hx,Ob.fv bK⟩)
 have bc:∀ i,Live (σ.aa.set id ob') i->Live σ.aa i:=by
  rintro i⟨x,hx,da⟩;rw[bM]at hx;split at hx
  ·rename_i e;subst e;exact iv
  ·exact⟨x,hx,da⟩
 refine⟨λk=>hR _ _ (h.ax k),?_,λi j b o c o' c' hi hj=>h.inj i j b o c o' c' (bc i hi) (bc j hj),?_,λz hz=>by rw[ay];exact h.eF z hz,λg=>hR _ _ (h.gl g)⟩
 ·intro i x hx;rw[bM]at hx;by_cases iJ:id=i
  ·subst iJ;rw[if_pos rfl,if_pos bZ]at hx;simp at hx;subst hx;exact aS _ hR
  ·rw[if_neg iJ]at hx;by_cases bK:x=.gone
   ·subst bK;trivial
   ·refine(h.c9 i x hx).mono hR rfl (λz y c hz=>jE z (λe=>iJ ?_));subst e;exact h.inj id i z o cap y c iv ⟨x,hx,bK⟩ hb hz
 ·rintro z ⟨i,y,c,hi,hz⟩;exact h.nz z ⟨i,y,c,bc i hi,hz⟩
def aK.write{σ:St}{γ:Cx}(h:aK σ γ){id:Nat}{ob ob':Ob}(ho:σ.aa[id]?=some ob)(hg:ob≠.gone)(j5:ob.cA ob'){b o cap:Nat}(hb:γ.blk id=some (b,o,cap)){w':World}{cur:Array Value}{t:TypeId}(hw:w'.heap[b]?=some (.cells cur t (0,0)))(jE:∀ k,k≠b->w'.heap[k]?=γ.w.heap[k]?)(ay:w'.heap.size=γ.w.heap.size)(aS:mH σ.aa γ.w γ.Z γ.blk o cap cur ob'):aK { σ with aa:=σ.aa.set id ob' } { γ with w:=w' } :=
 h.yl ho hg j5 hb jE ay λ_ hR=>aS.By hR hb hw
def Fr.write{σ:St}{γ:Cx}{id:Nat}{ob:Ob}(ob':Ob)(ho:σ.aa[id]?=some ob)(hg:ob≠.gone)(j5:ob.cA ob'){b o cap:Nat}(hb:γ.blk id=some (b,o,cap)){w':World}(jE:∀ k,k≠b->w'.heap[k]?=γ.w.heap[k]?)(ay:w'.heap.size=γ.w.heap.size)(h1:w'.os=γ.w.os)(h2:w'.tape=γ.w.tape)(h3:w'.output=γ.w.output):
  Fr σ.aa γ (σ.aa.set id ob') { γ with w:=w' } where
 ij:=h1
 tape:=h2
 output:=h3
 size:=by simp[ay]
 cg:=λz _ jB=>jE z (λe=>jB ⟨id,o,cap,⟨ob,ho,hg⟩,e▸hb⟩)
 z0:=λ_ h=>h
 z1:=λ_ h=>.inl h
 own:=by
  rintro z⟨i,y,c,⟨x,hx,da⟩,hz⟩;rw[bM]at hx;split at hx
  ·rename_i e;subst e;exact .inl ⟨id,y,c,⟨ob,ho,hg⟩,hz⟩
  ·exact .inl ⟨i,y,c,⟨x,hx,da⟩,hz⟩
 len:=Eb
 gf:=by
  rintro i hi⟨x,hx,da⟩;have hx0:=hx;rw[bM]at hx;split at hx
  ·rename_i e;subst e;exact⟨rfl,ob,ob',ho,by rw[bM];simp[hi],j5⟩
  ·exact⟨rfl,x,x,hx,hx0,Ob.fv da⟩
end Go.Am
namespace Go.Am
structure Ty where
 kind:Nat
 size:Nat
 bytes:Nat
 elem:Nat
 len:Nat
 zero:Option (List Value)
 aE:List (Nat×Nat×Nat)
def oN(P:Program)(t:TypeId):Nat:=match P.info? t with|some i=>i.size|none=>0
def ty(P:Program)(t:TypeId):Ty :=
 match P.info? t,P.underlying t with
 |some i,some d =>
  let base:Ty:={ kind:=0,size:=i.size,bytes:=i.bytes,elem:=0,len:=0,zero:=i.zero.map (·.cells.toList),aE:=[] }
  match d with
  |.slice e=>{ base with kind:=1,elem:=e }
  |.array n e=>{ base with kind:=2,elem:=e,len:=n }
  |.struct fs=>{ base with kind:=3,aE:=fs.toList.map λf=>(f.offset,f.type,oN P f.type) }
  |.string=>{ base with kind:=4 }
  |.int _=>{ base with kind:=5 }
  |.bool=>{ base with kind:=6 }
  |.pointer e=>{ base with kind:=7,elem:=e }
  |.map _ e=>{ base with kind:=8,elem:=e }
  |.func _ _ _=>{ base with kind:=9 }
  |_=>base
 |_,_=>{ kind:=99,size:=0,bytes:=0,elem:=0,len:=0,zero:=none,aE:=[] }
def Ty.isAgg(t:Ty):Bool:=t.kind==2||t.kind==3
def mL{P:Program}{t:TypeId}(h:(ty P t).kind≠99):∃i d,P.info? t=some i/\P.underlying t=some d/\(ty P t).size=i.size/\(ty P t).bytes=i.bytes/\(ty P t).zero=i.zero.map (·.cells.toList):=by
 unfold ty at h ⊢;cases hi:P.info? t with
 |none=>simp[hi]at h
 |some i =>
  cases hd:P.underlying t with
  |none=>simp[hi,hd]at h
  |some d =>
   refine⟨i,d,rfl,rfl,?_,?_,?_⟩<;>cases d<;>rfl
def lT{P:Program}{t:TypeId}(h:(ty P t).kind=1):P.underlying t=some (.slice (ty P t).elem):=by
 unfold ty at h ⊢;cases hi:P.info? t<;>cases hd:P.underlying t<;>simp[hi,hd]at h ⊢;rename_i i d;cases d<;>simp at h ⊢
def Bv{P:Program}{t:TypeId}(h:(ty P t).kind=2):P.underlying t=some (.array (ty P t).len (ty P t).elem):=by
 unfold ty at h ⊢;cases hi:P.info? t<;>cases hd:P.underlying t<;>simp[hi,hd]at h ⊢;rename_i i d;cases d<;>simp at h ⊢
def Bt{P:Program}{t:TypeId}(h:(ty P t).kind=3):∃fs,P.underlying t=some (.struct fs)/\(ty P t).aE=fs.toList.map λf=>(f.offset,f.type,oN P f.type):=by
 unfold ty at h ⊢;cases hi:P.info? t<;>cases hd:P.underlying t<;>simp[hi,hd]at h ⊢;rename_i i d;cases d<;>simp at h ⊢
def OG{P:Program}{t:TypeId}(h:(ty P t).kind=6):P.underlying t=some .bool:=by
 unfold ty at h;cases hi:P.info? t<;>cases hd:P.underlying t<;>simp[hi,hd]at h ⊢;rename_i i d;cases d<;>simp at h ⊢
def cC:Value->AV
 |.agg cs=>.agg (cs.toList.map .lit)
 |v=>.lit v
def ev(σ:St):Operand->AV
 |.tmp t=>σ.env t
 |.const v=>cC v
 |.func f=>.fn f []
 |.global g=>ov g
def St.put(σ:St)(dst:Option Tmp)(v:AV):St :=
 match dst with
 |some d=>{ σ with env:=fc σ.env d v }
 |none=>σ
def bt:AV->Bool
 |.lit v=>v.oneCell'
 |.tree ..|.bO _|.ref ..|.ptr ..|.fn ..|.dW ..|.cJ ..=>true
 |_=>false
def cellsOf:AV->List AV
 |.agg cs=>cs
 |v=>[v]
def setCells(cells:List AV)(c:Nat):List AV->List AV
 |[]=>cells
 |v::vs=>setCells (cells.set c v) (c+1) vs
def ia(place:Nat->Option (Nat×Nat))(cells:List AV):List (Nat×AV)->Option (List AV)
 |[]=>some cells
 | (i,v)::rest =>
  match place i with
  |none=>none
  |some (off,size)=>if(cellsOf v).length=size/\off+size<=cells.length then ia place (setCells cells off (cellsOf v)) rest else none
def ib(sz:Nat):Nat->List AV->List (List AV)
 |0,_=>[]
 |n+1,cs=>cs.take sz::ib sz n (cs.drop sz)
def rowOf(σ:St)(id r:Nat):Option (List AV) :=
 match σ.aa[id]? with
 |some (.var cells)=>if r=0 then some cells else none
 |some (.arr _ rows)=>rows[r]?
 |_=>none
def jq(σ:St)(id r:Nat)(row:List AV):St :=
 match σ.aa[id]? with
 |some (.var _)=>{ σ with aa:=σ.aa.set id (.var row) }
 |some (.arr sz rows)=>{ σ with aa:=σ.aa.set id (.arr sz (rows.set r row)) }
 |_=>σ
def h9(t:Ty)(cells:List AV)(c:Nat)(K:AV->Prop):Prop :=
 if t.isAgg then c+t.size<=cells.length/\K (.agg ((cells.drop c).take t.size))
 else match cells[c]? with
  |some v=>K v
  |none=>False
def jR:List AV->Option (List Int)
 |[]=>some []
 |.lit (.int .i64 a)::r=>(jR r).map (a::·)
 |_=>none
def mB(P:Program)(t:TypeId)(n:Nat):Prop :=
 ∀ (w:World) (as bs:List Int),as.length=n->bs.length=n ->
  (Op.equalIn 10000 t (.agg (as.map (Value.int .i64)).toArray) (.agg (bs.map (Value.int .i64)).toArray)).run P w=.ok (decide (as=bs)) w
def qZ(k:IntKind)(a b:Int):Int:=k.wrap ((BitVec.ofInt k.bits a &&& BitVec.ofInt k.bits b).toNat)
def Hm(a b:Int):Int:=IntKind.i64.wrap ((BitVec.ofInt 64 a &&& BitVec.ofInt 64 b).toNat)
def Ga(a b:Int):qZ .i64 a b=Hm a b:=by unfold qZ Hm;rfl
def nG(k:IntKind)(a b:Int)(K:Value->Prop):Prop:=if k=.u64 then K (.int k (k.wrap (a*b))) else(k.min<=a*b/\a*b<=k.max)/\K (.int k (a*b))
def mD(k:IntKind)(a:Int)(K:Value->Prop):Prop:=if k=.u64 then K (.int k (k.wrap (-a))) else(k.min<=-a/\-a<=k.max)/\K (.int k (-a))
def EJ{a b:Int}{K:Value->Prop}:nG .i64 a b K=((IntKind.i64.min<=a*b/\a*b<=IntKind.i64.max)/\K (.int .i64 (a*b))):=rfl
def EK{a b:Int}{K:Value->Prop}:nG .u64 a b K=K (.int .u64 (IntKind.u64.wrap (a*b))):=rfl
def EL{a:Int}{K:Value->Prop}:mD .i64 a K=((IntKind.i64.min<=-a/\-a<=IntKind.i64.max)/\K (.int .i64 (-a))):=rfl
def EM{a:Int}{K:Value->Prop}:mD .u64 a K=K (.int .u64 (IntKind.u64.wrap (-a))):=rfl
def dG(op:BinOp)(k:IntKind)(a b:Int)(K:Value->Prop):Prop :=
 match op with
 |.add=>(k.min<=a+b/\a+b<=k.max)/\K (.int k (a+b))
 |.sub=>(k.min<=a-b/\a-b<=k.max)/\K (.int k (a-b))
 |.mul=>nG k a b K
 |.quo=>(0<=a/\0<b/\a<=k.max)/\K (.int k (a/b))
 |.rem=>b≠0/\K (.int k (a.tmod b))
 |.and=>K (.int k (qZ k a b))
 |.shr=>(0<=b/\b.toNat<=k.bits)/\K (.int k (a/2^b.toNat))
 |.eql=>K (.bool (a==b))
 |.neq=>K (.bool (a != b))
 |.lss=>K (.bool (decide (a<b)))
 |.leq=>K (.bool (decide (a<=b)))
 |.gtr=>K (.bool (decide (a > b)))
 |.geq=>K (.bool (decide (a >= b)))
 |_=>False
def dh(t:Bool):AV->AV->AV
 |.lit (.bool x),.lit (.bool y)=>.lit (.bool (bif t then x else y))
 |a,b=>if t then a else b
def jr(σ:St):AV->Option (Nat×List (List AV))
 |.tree sz rows=>some (sz,rows)
 |.ref id sz off len =>
  match σ.aa[id]? with
  |some (.arr bz rows)=>if bz=sz then some (sz,(rows.drop off).take len) else none
  |_=>none
 |_=>none
def kW(σ:St)(sz:Nat):AV->Option (List (List AV)×St)
 |.lit (.slice none 0 0)=>some ([],σ)
 |.ref id bz off len =>
  match σ.aa[id]? with
  |some (.arr gj rows)=>if gj=bz/\bz=sz then some ((rows.drop off).take len,{ σ with aa:=σ.aa.set id .gone }) else none
  |_=>none
 |_=>none
end Go.Am
namespace Go.Am
variable (P:Program)
def cX(l:List Int):List (List Int×AV)->Nat->Option Nat
 |[],_=>none
 |p::r,i=>if p.1=l then some i else cX l r (i+1)
def iF(l:List Int)(L:List (List Int×AV)):Option AV:=(cX l L 0).bind λi=>(L[i]?).map (·.2)
def bT(l:List Int)(v:AV)(L:List (List Int×AV)):List (List Int×AV) :=
 match cX l L 0 with
 |some i=>L.set i (l,v)
 |none=>L++[(l,v)]
def nu(l:List Int)(L:List (List Int×AV)):Nat:=(cX l L 0).getD L.length
def jz(n:Nat)(v:AV)(L:List (List Int×AV)):List (List Int×AV):=L.set n ((L.getD n ([],.undef)).1,v)
def gg(P:Program)(t:TypeId)(ag:Nat):Prop:=∃ kt et,P.underlying t=some (.map kt et)/\∀ l:List Int,l.length=e8 ag ->
 (∀ e w,(Instr.checkKey e 10000 kt (kV ag l)).run P w=.ok () w)/\(∀ w,(Instr.keyThatStays (kV ag l) (kV ag l)).run P w=.ok (kV ag l) w) /\
 ∀ (f:Nat->Value) (L:List (List Int×AV)) w,(∀ p∈L,p.1.length=e8 ag)->(Instr.findKey kt (kV ag l) (dz (bQ ag f L)).toList).run P w=.ok ((cX l L 0).map λi=>(i,f i)) w
def zeroV(P:Program)(t:TypeId):Option Value :=
 match P.info? t with
 |some i=>i.zero
 |none=>none
def uR(P:Program)(t:TypeId):Nat :=
 match P.underlying t with
 |some (.map kt _)=>if(ty P kt).isAgg then(ty P kt).size else 0
 |_=>0
def keyOf:AV->Option (Nat×List Int)
 |.lit (.int .i64 n)=>some (0,[n])
 |.agg cs=>(jR cs).map λl=>(l.length,l)
 |_=>none
def gJ(σ:St):AV->Option (Nat×Nat×List (List Int×AV))
 |.cJ id =>
  match σ.aa[id]? with
  |some (.mp ag L)=>some (id,ag,L)
  |_=>none
 |_=>none
def nv(s:ByteArray)(n:Nat):Int :=
 match s[n]? with
 |some b=>b.toNat
 |none=>0
def s0(P:Program)(t:TypeId):Bool :=
 match P.underlying t with
 |some (.interface _)=>true
 |some _=>false
 |none=>true
def bh (o:Oper) (σ:St) (K:St->Prop):Prop :=
  match o.op with
  | .move x | .assign x=>K (σ.put o.dst (ev σ x))
  | .pick c a b =>
    match ev σ c with
    | .lit (.bool t)=>K (σ.put o.dst (dh t (ev σ a) (ev σ b)))
    | _=>False
  | .alloc e =>
    (ty P e).kind≠99 /\
    match (ty P e).zero with
    | some z=>K (({ σ with aa:=σ.aa++[.var (z.map .lit)] }:St).put o.dst (.ptr σ.aa.length 0 0))
    | none=>False
  | .box _ x=>(cellsOf (ev σ x)).all bt=true/\K (({ σ with aa:=σ.aa++[.var (cellsOf (ev σ x))] }:St).put o.dst (.ptr σ.aa.length 0 0))
  | .build t parts =>
    match (ty P t).kind,(ty P t).zero with
    | 3,some z =>
      match ia (λi=>((ty P t).aE[i]?).map λf=>(f.1,f.2.2)) (z.map .lit) (parts.toList.map λp=>(p.1,ev σ p.2)) with
      | some cs=>((parts.toList.all λp=>(cellsOf (ev σ p.2)).all bt)=true/\((ty P t).aE.all λf=>decide (0<f.2.2))=true)/\K (σ.put o.dst (.agg cs))
      | none=>False
    | 2,some z =>
      match ia (λi=>some (i * (ty P (ty P t).elem).size,(ty P (ty P t).elem).size)) (z.map .lit) (parts.toList.map λp=>(p.1,ev σ p.2)) with
      | some cs=>((parts.toList.all λp=>(cellsOf (ev σ p.2)).all bt)=true/\(ty P (ty P t).elem).kind≠99)/\K (σ.put o.dst (.agg cs))
      | none=>False
    | _,_=>False
  | .buildSlice t len parts =>
    match (ty P t).kind,(ty P (ty P t).elem).zero with
    | 1,some z =>
      match ia (λi=>some (i * (ty P (ty P t).elem).size,(ty P (ty P t).elem).size)) ((List.range len).flatMap λ_=>z.map .lit) (parts.toList.map λp=>(p.1,ev σ p.2)) with
      | some cs=>((ty P (ty P t).elem).kind≠99/\0<(ty P (ty P t).elem).size/\z.length=(ty P (ty P t).elem).size/\len * (ty P (ty P t).elem).size<=16777216/\(parts.toList.all λp=>(cellsOf (ev σ p.2)).all bt)=true) /\
          K (({ σ with aa:=σ.aa++[.arr (ty P (ty P t).elem).size (ib (ty P (ty P t).elem).size len cs)] }:St).put o.dst (.ref σ.aa.length (ty P (ty P t).elem).size 0 len))
      | none=>False
    | _,_=>False
  | .load t a =>
    (ty P t).kind≠99 /\
    match ev σ a with
    | .ptr id r c =>
      match rowOf σ id r with
      | some row=>h9 (ty P t) row c λv=>K (σ.put o.dst v)
      | none=>False
    | .bO cells=>h9 (ty P t) cells 0 λv=>K (σ.put o.dst v)
    | _=>False
  | .store t a x =>
    (ty P t).kind≠99 /\
    match ev σ a with
    | .ptr id r c =>
      match rowOf σ id r with
      | some row=>((cellsOf (ev σ x)).length=(ty P t).size/\c+(ty P t).size<=row.length/\(cellsOf (ev σ x)).all bt=true)/\K ((jq σ id r (setCells row c (cellsOf (ev σ x)))).put o.dst .undef)
      | none=>False
    | _=>False
  | .nilCheck x =>
    match ev σ x with
    | .ptr id r c =>
      match σ.aa[id]? with
      | some .gone=>False
      | some _=>K (σ.put o.dst (.ptr id r c))
      | none=>False
    | .bO cells=>K (σ.put o.dst (.bO cells))
    | _=>False
  | .binOp op t x y _ =>
    match ev σ x,ev σ y with
    | .lit (.int k a),.lit (.int k' b)=>k=k'/\dG op k a b λv=>K (σ.put o.dst (.lit v))
    | .lit (.bool a),.lit (.bool b) =>
      (ty P t).kind=6 /\
      match op with
      | .eql=>K (σ.put o.dst (.lit (.bool (a == b))))
      | .neq=>K (σ.put o.dst (.lit (.bool (a != b))))
      | _=>False
    | .tree _ rows,.lit (.slice none 0 0) =>
      ((ty P t).kind=1/\0<rows.length) /\
      match op with
      | .eql=>K (σ.put o.dst (.lit (.bool false)))
      | .neq=>K (σ.put o.dst (.lit (.bool true)))
      | _=>False
    | .lit (.slice a _ _),.lit (.slice none 0 0) =>
      (ty P t).kind=1 /\
      match op with
      | .eql=>K (σ.put o.dst (.lit (.bool a.isNone)))
      | .neq=>K (σ.put o.dst (.lit (.bool (!a.isNone))))
      | _=>False
    | .agg cs,.agg ds =>
      match jR cs,jR ds with
      | some as,some bs =>
        (mB P t as.length/\bs.length=as.length/\P.eqGuardType P.depth t=false) /\
        match op with
        | .eql=>K (σ.put o.dst (.lit (.bool (decide (as=bs)))))
        | .neq=>K (σ.put o.dst (.lit (.bool (!decide (as=bs)))))
        | _=>False
      | _,_=>False
    | _,_=>False
  | .unOp op _ x =>
    match op,ev σ x with
    | .not,.lit (.bool b)=>K (σ.put o.dst (.lit (.bool !b)))
    | .neg,.lit (.int k a)=>mD k a λv=>K (σ.put o.dst (.lit v))
    | _,_=>False
  | .makeFunc fn first captured =>
    match fn with
    | .func f=>first.size=0/\K (σ.put o.dst (.fn f (captured.toList.map (ev σ))))
    | _=>False
  | .makeSlice t l c =>
    match (ty P t).kind,(ty P (ty P t).elem).zero,ev σ l,ev σ c with
    | 1,some z,.lit (.int k n),.lit (.int k' n') =>
      ((ty P (ty P t).elem).kind≠99/\0<(ty P (ty P t).elem).size/\z.length=(ty P (ty P t).elem).size/\n'=n/\0<=n/\n<=1099511627776/\(ty P (ty P t).elem).bytes<=128/\k=k) /\
        K (({ σ with aa:=σ.aa++[.arr (ty P (ty P t).elem).size (aw n.toNat (z.map .lit))] }:St).put o.dst (.ref σ.aa.length (ty P (ty P t).elem).size 0 n.toNat))/\k'=k'
    | _,_,_,_=>False
  | .slice t x lo hi mx =>
    (ty P t).kind=1/\(ty P (ty P t).elem).kind≠99/\mx=none /\
    match ev σ x with
    | .ref id sz off len =>
      match σ.aa[id]? with
      | some (.arr bz rows) =>
        bz=sz/\sz=(ty P (ty P t).elem).size /\
        match lo.map (ev σ),hi.map (ev σ) with
        | none,none=>K (σ.put o.dst (.ref id sz off len))
        | some (.lit (.int _ l)),none=>(0<=l/\l<=len/\rows.length=rows.length)/\K (σ.put o.dst (.ref id sz (off+l.toNat) (len - l.toNat)))
        | none,some (.lit (.int _ h))=>(0<=h/\h<=len)/\K (σ.put o.dst (.ref id sz off h.toNat))
        | some (.lit (.int _ l)),some (.lit (.int _ h))=>(0<=l/\l<=h/\h<=len)/\K (σ.put o.dst (.ref id sz (off+l.toNat) (h.toNat - l.toNat)))
        | _,_=>False
      | _=>False
    | .tree sz rows =>
        (rows≠[]->sz=(ty P (ty P t).elem).size) /\
        match lo.map (ev σ),hi.map (ev σ) with
        | none,none=>K (σ.put o.dst (.tree sz rows))
        | some (.lit (.int _ l)),none=>(0<=l/\l<=rows.length)/\K (σ.put o.dst (.tree sz (rows.drop l.toNat)))
        | none,some (.lit (.int _ h))=>(0<=h/\h<=rows.length)/\K (σ.put o.dst (.tree sz (rows.take h.toNat)))
        | some (.lit (.int _ l)),some (.lit (.int _ h))=>(0<=l/\l<=h/\h<=rows.length)/\K (σ.put o.dst (.tree sz ((rows.take h.toNat).drop l.toNat)))
        | _,_=>False
    | _=>False
  | .fieldAddr s x f =>
    match (ty P s).kind,(ty P s).aE[f]? with
    | 3,some (off,_,size) =>
      0<size /\
      match ev σ x with
      | .ptr id r c =>
        match σ.aa[id]? with
        | some .gone=>False
        | some _=>K (σ.put o.dst (.ptr id r (c+off)))
        | none=>False
      | .bO cells=>K (σ.put o.dst (.bO (cells.drop off)))
      | _=>False
    | _,_=>False
  | .field s x f =>
    match (ty P s).kind,(ty P s).aE[f]? with
    | 3,some (off,t,size) =>
      (ty P t).kind≠99/\size=(ty P t).size /\
      match ev σ x with
      | .agg cs=>if (ty P t).isAgg then off+size<=cs.length/\K (σ.put o.dst (.agg ((cs.drop off).take size))) else
          match cs[off]? with
          | some v=>K (σ.put o.dst v)
          | none=>False
      | _=>False
    | _,_=>False
  | .indexAddr t x i =>
    match (ty P t).kind,ev σ x,ev σ i with
    | 1,.ref id sz off len,.lit (.int _ n) =>
      match σ.aa[id]? with
      | some (.arr bz _)=>(bz=sz/\sz=(ty P (ty P t).elem).size/\(ty P (ty P t).elem).kind≠99/\0<=n/\n<len)/\K (σ.put o.dst (.ptr id (off+n.toNat) 0))
      | _=>False
    | 1,.tree sz rows,.lit (.int _ n)=>(sz=(ty P (ty P t).elem).size/\(ty P (ty P t).elem).kind≠99/\0<=n/\n<rows.length)/\K (σ.put o.dst (.bO (rows.getD n.toNat [])))
    | 2,.ptr id r c,.lit (.int _ n) =>
      match σ.aa[id]? with
      | some .gone=>False
      | some _=>((ty P (ty P t).elem).kind≠99/\0<=n/\n<(ty P t).len)/\K (σ.put o.dst (.ptr id r (c+n.toNat * (ty P (ty P t).elem).size)))
      | none=>False
    | 2,.bO cells,.lit (.int _ n)=>((ty P (ty P t).elem).kind≠99/\0<=n/\n<(ty P t).len)/\K (σ.put o.dst (.bO (cells.drop (n.toNat * (ty P (ty P t).elem).size))))
    | _,_,_=>False
  | .makeMap t r=>(r=none/\(ty P t).kind=8)/\K (({ σ with aa:=σ.aa++[.mp (uR P t) []] }:St).put o.dst (.cJ σ.aa.length))
  | .lookup t x i ok =>
    match keyOf (ev σ i),gJ σ (ev σ x),zeroV P (ty P t).elem with
    | some (ag,l),some (_,eG,L),some z=>(gg P t ag/\eG=ag/\l.length=e8 ag/\(ty P t).kind=8/\ok=false)/\K (σ.put o.dst ((iF l L).getD (.lit z)))
    | _,_,_=>False
  | .mapUpdate t m k x =>
    match keyOf (ev σ k),gJ σ (ev σ m) with
    | some (ag,l),some (id,eG,L)=>(gg P t ag/\eG=ag/\l.length=e8 ag)/\K (({ σ with aa:=σ.aa.set id (.mp ag (bT l (ev σ x) L)) }:St).put o.dst .undef)
    | _,_=>False
  | .mapEntry t m k =>
    match keyOf (ev σ k),gJ σ (ev σ m),zeroV P (ty P t).elem with
    | some (ag,l),some (id,eG,L),some z=>(gg P t ag/\eG=ag/\l.length=e8 ag/\(ty P t).kind=8) /\
      K (({ σ with aa:=σ.aa.set id (.mp ag (bT l ((iF l L).getD (.lit z)) L)) }:St).put o.dst (.bA [(iF l L).getD (.lit z),.lit (.int .i64 (nu l L:Nat))]))
    | _,_,_=>False
  | .entryStore _ m s x =>
    match ev σ s,gJ σ (ev σ m) with
    | .lit (.int .i64 n),some (id,ag,L)=>(0<=n/\n<L.length)/\K (({ σ with aa:=σ.aa.set id (.mp ag (jz n.toNat (ev σ x) L)) }:St).put o.dst .undef)
    | _,_=>False
  | .index t x i =>
    match ev σ x,ev σ i with
    | .lit (.string s),.lit (.int _ n)=>(P.underlying t=some .string/\0<=n/\n<s.size)/\K (σ.put o.dst (.lit (.int .u8 (nv s n.toNat))))
    | _,_=>False
  | .makeInterface t x=>s0 P t=false/\K (σ.put o.dst (.dW t (ev σ x)))
  | .typeAssert x _ asserted ok =>
    match ev σ x with
    | .dW t v=>(s0 P asserted=false/\t=asserted/\ok=false)/\K (σ.put o.dst v)
    | _=>False
  | .extract x i =>
    match ev σ x with
    | .bA vs =>
      match vs[i]? with
      | some v=>K (σ.put o.dst v)
      | none=>False
    | _=>False
  | .call { callee:=.builtin .len,args,argTypes } =>
    match args.toList,argTypes.toList with
    | [x],[t] =>
      match ev σ x with
      | .ref id sz _ len =>
        (ty P t).kind=1 /\
        match σ.aa[id]? with
        | some (.arr bz _)=>bz=sz/\K (σ.put o.dst (.lit (.int .i64 len)))
        | _=>False
      | .tree _ rows=>(ty P t).kind=1/\K (σ.put o.dst (.lit (.int .i64 rows.length)))
      | .lit (.slice none 0 0)=>(ty P t).kind=1/\K (σ.put o.dst (.lit (.int .i64 0)))
      | .cJ id =>
        (ty P t).kind=8 /\
        match σ.aa[id]? with
        | some (.mp _ L)=>K (σ.put o.dst (.lit (.int .i64 L.length)))
        | _=>False
      | _=>False
    | _,_=>False
  | .call { callee:=.builtin .append,args,argTypes } =>
    match args.toList,argTypes.toList with
    | [s,x],[t,t'] =>
      match (ty P t).kind,(ty P (ty P t).elem).zero,kW σ (ty P (ty P t).elem).size (ev σ s),jr σ (ev σ x) with
      | 1,some z,some (pre,σ1),some (sz,src) =>
        (t'=t/\(ty P (ty P t).elem).kind≠99/\sz=(ty P (ty P t).elem).size/\0<sz/\z.length=sz/\pre.length+src.length<=549755813888/\(ty P (ty P t).elem).bytes<=128/\(src.all λrow=>row.all bt)=true) /\
          K (({ σ1 with aa:=σ1.aa++[.arr sz (pre++src)] }:St).put o.dst (.ref σ1.aa.length sz 0 (pre.length+src.length)))
      | _,_,_,_=>False
    | _,_=>False
  | .call { callee:=.builtin .min,args,argTypes:=_ } =>
    match args.toList with
    | [x,y] =>
      match ev σ x,ev σ y with
      | .lit (.int k a),.lit (.int k' b)=>k=k'/\K (σ.put o.dst (.lit (.int k (min a b))))
      | _,_=>False
    | _=>False
  | .call { callee:=.builtin .max,args,argTypes:=_ } =>
    match args.toList with
    | [x,y] =>
      match ev σ x,ev σ y with
      | .lit (.int k a),.lit (.int k' b)=>k=k'/\K (σ.put o.dst (.lit (.int k (max a b))))
      | _,_=>False
    | _=>False
  | .call { callee:=.builtin .copy,args,argTypes } =>
    match args.toList,argTypes.toList with
    | [s,x],[t,_] =>
      match ev σ s,jr σ (ev σ x) with
      | .ref id sz off len,some (bz,src) =>
        match σ.aa[id]? with
        | some (.arr gj rows) =>
          ((ty P t).kind=1/\(ty P (ty P t).elem).kind≠99/\bz=sz/\gj=sz/\sz=(ty P (ty P t).elem).size/\0<sz/\(src.all λrow=>row.all bt)=true) /\
            K (({ σ with aa:=σ.aa.set id (.arr sz (rows.take off++src.take (min src.length len)++rows.drop (off+min src.length len))) }:St).put o.dst (.lit (.int .i64 (min src.length len:Nat))))
        | _=>False
      | _,_=>False
    | _,_=>False
  | .call { callee:=.builtin .clear,args,argTypes } =>
    match args.toList,argTypes.toList with
    | [s],[t] =>
      match ev σ s,(ty P (ty P t).elem).zero with
      | .ref id sz off len,some z =>
        match σ.aa[id]? with
        | some (.arr bz rows) =>
          ((ty P t).kind=1/\(ty P (ty P t).elem).kind≠99/\bz=sz/\z.length=sz/\0<sz/\(z.all λu=>u.oneCell')=true) /\
            K (({ σ with aa:=σ.aa.set id (.arr sz (rows.take off++aw len (z.map AV.lit)++rows.drop (off+len))) }:St).put o.dst (.lit (.tuple #[])))
        | _=>False
      | _,_=>False
    | _,_=>False
  | .convert s d x =>
    match P.underlying d,ev σ x with
    | some (.int k),.lit (.int _ n)=>(P.underlying s).isSome=true/\K (σ.put o.dst (.lit (.int k (k.wrap n))))
    | _,_=>False
  | _=>False
end Go.Am

