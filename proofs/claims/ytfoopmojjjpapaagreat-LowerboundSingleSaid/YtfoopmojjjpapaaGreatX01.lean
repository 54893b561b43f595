import Derived.Test.YtfoopmojjjpapaaGreatX00
import Derived.Orders
import Derived.Laws.AppendOwn
import Derived.Laws.MakeOwn
import Derived.Laws.Slices
import Derived.Laws.Small
set_option linter.all false
set_option maxHeartbeats 0
set_option maxRecDepth 20000
open Nat renaming le_refl→aY,le_trans→tL,lt_of_lt_of_le→DW,ne_of_lt→oG,lt_or_ge→dP
open List renaming getElem?_eq_some_iff→aV,getElem?_append_left→eZ,getElem?_set→bU,replicate→aK
open Array renaming getD_eq_getD_getElem?→eL,getElem?_eq_some_iff→mW
namespace Go.Am
inductive AV where
 |undef
 |lit (v:Value)
 |tree (sz:Nat) (rows:List (List AV))
 |cB (cells:List AV)
 |ref (id sz off len:Nat)
 |ptr (id r c:Nat)
 |agg (cs:List AV)
 |bD (vs:List AV)
 |fn (f:FuncId) (bC:List AV)
 |iC (t:TypeId) (v:AV)
 |dD (id:Nat)
 deriving Inhabited
abbrev Qf(n:Int):AV:=.lit (.int .i64 n)
inductive Ob where
 |gone
 |var (cells:List AV)
 |arr (sz:Nat) (rows:List (List AV))
 |mp (ag:Nat) (L:List (List Int×AV))
 deriving Inhabited
structure St where
 env:Nat->AV
 aa:List Ob
def jH(e:Nat->AV)(d:Nat)(v:AV):Nat->AV:=λk=>if k=d then v else e k
def cellAt(rows:List (List AV))(r c:Nat):Option AV:=(rows[r]?).bind (·[c]?)
def cY(ents:List (Value×Value)):Array MapEntry:=(ents.mapIdx λi p=>(⟨p.1,p.2,i⟩:MapEntry)).toArray
def kV(ag:Nat)(l:List Int):Value:=if ag=0 then .int .i64 (l.headD 0) else .agg (l.map λn=>.int .i64 n).toArray
def kD(ag:Nat):Nat:=if ag=0 then 1 else ag
def du(ag:Nat)(f:Nat->Value)(L:List (List Int×AV)):List (Value×Value):=L.mapIdx λj p=>(kV ag p.1,f j)
def K5(ag:Nat)(f:Nat->Value)(g:AV->AV)(L:List (List Int×AV)):du ag f (L.map λp=>(p.1,g p.2))=du ag f L:=by
 unfold du;apply List.ext_getElem
 ·simp
 ·intros;simp
abbrev gB:=Nat->Option (Nat×Nat×Nat)
inductive iB(w:World)(Z:Nat->Prop):AV->Value->Prop where
 |lit (v:Value):iB w Z (.lit v) v
 |nil (sz cap:Nat) (a:Option Addr):iB w Z (.tree sz []) (.slice a 0 cap)
 |tree (sz:Nat) (rows:List (List AV)) (b o cap:Nat) (f:Nat->Nat->Value) (hz:Z b) (hr:∀ row∈rows,row.length=sz) (Eu:rows.length<=cap)
   (hc:∀ r c x,cellAt rows r c=some x->w.cell? ⟨b,o+(r*sz+c),none⟩=some (f r c))
   (ht:∀ r c x,cellAt rows r c=some x->iB w Z x (f r c)):iB w Z (.tree sz rows) (.slice (some ⟨b,o,none⟩) rows.length cap)
inductive aw(os:List Ob)(w:World)(Z:Nat->Prop)(blk:gB):AV->Value->Prop where
 |undef (cv:Value):aw os w Z blk .undef cv
 |cO (v:AV) (cv:Value) (h:iB w Z v cv):aw os w Z blk v cv
 |cB (cells:List AV) (b o:Nat) (f:Nat->Value) (hz:Z b) (hc:∀ j x,cells[j]?=some x->w.cell? ⟨b,o+j,none⟩=some (f j))
   (ht:∀ j x,cells[j]?=some x->iB w Z x (f j)):aw os w Z blk (.cB cells) (.pointer (some ⟨b,o,none⟩))
 |k9 (id sz off len:Nat) (cv:Value) (h:os[id]?=some .gone) (h1:cv.oneCell'=true):aw os w Z blk (.ref id sz off len) cv
 |nV (id r c:Nat) (cv:Value) (h:os[id]?=some .gone) (h1:cv.oneCell'=true):aw os w Z blk (.ptr id r c) cv
 |ref (id sz off len b o cap cap':Nat) (rows:List (List AV)) (h:os[id]?=some (.arr sz rows)) (hb:blk id=some (b,o,cap))
   (hl:off+len<=rows.length) (hc:off+cap'<=cap) (jV:len<=cap'):aw os w Z blk (.ref id sz off len) (.slice (some ⟨b,o+off*sz,none⟩) len cap')
 |mK (id sz:Nat) (h:os[id]?=some (.arr sz [])) (hb:blk id=none):aw os w Z blk (.ref id sz 0 0) (.slice none 0 0)
 |nj (id sz off b x:Nat) (bo:Nat×Nat) (rows:List (List AV)) (h:os[id]?=some (.arr sz rows)) (hb:blk id=some (b,bo)) (hl:off<=rows.length) :
   aw os w Z blk (.ref id sz off 0) (.slice (some ⟨b,x,none⟩) 0 0)
 |oN (id c b cap:Nat) (cells:List AV) (h:os[id]?=some (.var cells)) (hb:blk id=some (b,0,cap)):aw os w Z blk (.ptr id 0 c) (.pointer (some ⟨b,c,none⟩))
 |py (id r c sz b o cap:Nat) (rows:List (List AV)) (h:os[id]?=some (.arr sz rows)) (hb:blk id=some (b,o,cap)) :
   aw os w Z blk (.ptr id r c) (.pointer (some ⟨b,o+(r*sz+c),none⟩))
 |agg (cs:List AV) (bm:Array Value) (hs:bm.size=cs.length) (h:∀ j x,cs[j]?=some x->aw os w Z blk x (bm.getD j Go.undef)):aw os w Z blk (.agg cs) (.agg bm)
 |bD (cs:List AV) (bm:Array Value) (hs:bm.size=cs.length) (h:∀ j x,cs[j]?=some x->aw os w Z blk x (bm.getD j Go.undef)):aw os w Z blk (.bD cs) (.tuple bm)
 |fn (f:FuncId) (cs:List AV) (bm:Array Value) (hs:bm.size=cs.length) (h:∀ j x,cs[j]?=some x->aw os w Z blk x (bm.getD j Go.undef)) :
   aw os w Z blk (.fn f cs) (.func (.func f) #[] bm)
 |iC (t:TypeId) (v:AV) (cv:Value) (h:aw os w Z blk v cv):aw os w Z blk (.iC t v) (.iface t cv)
 |dD (id b:Nat) (ag:Nat) (L:List (List Int×AV)) (h:os[id]?=some (.mp ag L)) (hb:blk id=some (b,0,0)):aw os w Z blk (.dD id) (.map (some b))
 |q9 (id:Nat) (cv:Value) (h:os[id]?=some .gone) (h1:cv.oneCell'=true):aw os w Z blk (.dD id) cv
def A7 (os:List Ob) (w:World) (Z:Nat->Prop) (blk:gB) (i:Nat):Ob->Prop
  | .gone=>True
  | .var cells=>∃ b cap cur t,blk i=some (b,0,cap)/\w.heap[b]?=some (.cells cur t (0,0))/\cur.size=cells.length /\
      ∀ c v,cells[c]?=some v->aw os w Z blk v (cur.getD c Go.undef)
  | .arr sz rows=>0<sz/\(∀ row∈rows,row.length=sz) /\
      ((blk i=none/\rows=[])\/∃ b o cap cur t,blk i=some (b,o,cap)/\w.heap[b]?=some (.cells cur t (0,0))/\o+cap * sz<=cur.size/\rows.length<=cap/\cap<=maxLen /\
        ∀ r c v,cellAt rows r c=some v->aw os w Z blk v (cur.getD (o+(r * sz+c)) Go.undef))
  | .mp ag L=>∃ b,∃ f:Nat->Value,blk i=some (b,0,0)/\w.heap[b]?=some (.map (cY (du ag f L)) L.length)/\(∀ p∈L,p.1.length=kD ag)/\∀ (j:Nat) p,L[j]?=some p->aw os w Z blk p.2 (f j)
def AB(g:Nat):AV :=
 match GV.lookup g with
 |some cs=>.cB (cs.map .lit)
 |none=>.undef
structure Cx where
 w:World
 tmps:Array Value
 Z:Nat->Prop
 blk:gB
def Live(os:List Ob)(i:Nat):Prop:=∃ o,os[i]?=some o/\o≠.gone
def pA(os:List Ob)(blk:gB)(b:Nat):Prop:=∃ i o cap,Live os i/\blk i=some (b,o,cap)
structure bx(σ:St)(γ:Cx):Prop where
 ao:∀ k,aw σ.aa γ.w γ.Z γ.blk (σ.env k) (γ.tmps.getD k Go.undef)
 dT:∀ (i:Nat) o,σ.aa[i]?=some o->A7 σ.aa γ.w γ.Z γ.blk i o
 inj:∀ i j b o c o' c',Live σ.aa i->Live σ.aa j->γ.blk i=some (b,o,c)->γ.blk j=some (b,o',c')->i=j
 nz:∀ b,pA σ.aa γ.blk b->¬ γ.Z b
 gG:∀ b,γ.Z b->b<γ.w.heap.size
 gl:∀ g,aw σ.aa γ.w γ.Z γ.blk (AB g) (.pointer (some ⟨g,0,none⟩))
def Ob.ej:Ob->Ob->Prop
 |.var a,.var b=>a.length=b.length
 |.arr s a,.arr s' b=>s=s'/\a.length=b.length
 |.mp a _,.mp b _=>a=b
 |_,_=>False
def Ob.jK{o:Ob}(h:o≠.gone):o.ej o:=by
 cases o<;>simp_all [Ob.ej]
def Ob.HF{a b c:Ob}(h:a.ej b)(k:b.ej c):a.ej c:=by
 cases a<;>cases b<;>cases c<;>simp_all [Ob.ej]
def Ob.Ss{a b:Ob}(h:a.ej b):a≠.gone/\b≠.gone:=by
 cases a<;>cases b<;>simp_all [Ob.ej]
structure Fr(CN:List Ob)(qt:Cx)(os:List Ob)(γ:Cx):Prop where
 lF:γ.w.os=qt.w.os
 tape:γ.w.tape=qt.w.tape
 output:γ.w.output=qt.w.output
 size:qt.w.heap.size<=γ.w.heap.size
 ek:∀ b,b<qt.w.heap.size->¬ pA CN qt.blk b->γ.w.heap[b]?=qt.w.heap[b]?
 z0:∀ b,qt.Z b->γ.Z b
 z1:∀ b,γ.Z b->qt.Z b\/pA CN qt.blk b\/qt.w.heap.size<=b
 own:∀ b,pA os γ.blk b->pA CN qt.blk b\/qt.w.heap.size<=b
 len:CN.length<=os.length
 eA:∀ i,i<CN.length->Live os i->γ.blk i=qt.blk i/\∃ o o',CN[i]?=some o/\os[i]?=some o'/\o.ej o'
 drawn:qt.w.drawn<=γ.w.drawn:=by first|exact aY _|(simp;done)|omega
def Fr.refl(os:List Ob)(γ:Cx):Fr os γ os γ :=
 ⟨rfl,rfl,rfl,aY _,λ_ _ _=>rfl,λ_ h=>h,λ_ h=>.inl h,λ_ h=>.inl h,aY _,λ_ _ ⟨o,ho,hg⟩=>⟨rfl,o,o,ho,ho,Ob.jK hg⟩,aY _⟩
def Fr.trans{a b c:List Ob}{x y z:Cx}(h:Fr a x b y)(k:Fr b y c z):Fr a x c z where
 lF:=k.lF.trans h.lF
 tape:=k.tape.trans h.tape
 output:=k.output.trans h.output
 drawn:=tL h.drawn k.drawn
 size:=tL h.size k.size
 ek:=λn hn ho=>(k.ek n (DW hn h.size) (λhw=>(h.own n hw).elim ho (λhl=>GK))).trans (h.ek n hn ho)
 z0:=λn hn=>k.z0 n (h.z0 n hn)
 z1:=λn hn=>by
  rcases k.z1 n hn with h1|h1|h1
  ·exact h.z1 n h1
  ·rcases h.own n h1 with h2|h2
   ·exact .inr (.inl h2)
   ·exact .inr (.inr h2)
  ·exact .inr (.inr (tL h.size h1))
 own:=λn hn=>by
  rcases k.own n hn with h1|h1
  ·exact h.own n h1
  ·exact .inr (tL h.size h1)
 len:=tL h.len k.len
 eA:=λi hi hl=>by
  obtain⟨h1,o,o',ho,cm,hk⟩:=k.eA i (DW hi h.len) hl;obtain⟨h3,x,x',hx,b6,bg⟩:=h.eA i hi ⟨o,ho,(Ob.Ss hk).1⟩;rw[ho]at b6;simp at b6;subst b6;exact⟨h1.trans h3,x,o',hx,cm,Ob.HF bg hk⟩
def LP{w w':World}{b o:Nat}(h:w'.heap[b]?=w.heap[b]?):w'.cell? ⟨b,o,none⟩=w.cell? ⟨b,o,none⟩:=by
 simp[World.cell?,h]
def iB.mono{w w':World}{Z Z':Nat->Prop}{v:AV}{cv:Value}(h:iB w Z v cv)(hz:∀ b,Z b->Z' b/\w'.heap[b]?=w.heap[b]?):iB w' Z' v cv:=by
 induction h with
 |lit v=>exact .lit v
 |nil sz cap a=>exact .nil sz cap a
 |tree sz rows b o cap f tW hr Eu hc _ ih =>
  exact .tree sz rows b o cap f (hz b tW).1 hr Eu (λr c x hx=>by rw[LP (hz b tW).2];exact hc r c x hx) ih
def aw.mono{os gN:List Ob}{w w':World}{Z Z':Nat->Prop}{blk ke:gB}{v:AV}{cv:Value}(h:aw os w Z blk v cv)(hz:∀ b,Z b->Z' b/\w'.heap[b]?=w.heap[b]?)(ho:∀ i o,os[i]?=some o->gN[i]?=some .gone\/(ke i=blk i/\∃ o',gN[i]?=some o'/\o.ej o')):aw gN w' Z' ke v cv:=by
 induction h with
 |undef cv=>exact .undef cv
 |cO v cv h=>exact .cO v cv (h.mono hz)
 |cB cells b o f tW hc ht =>
  exact .cB cells b o f (hz b tW).1 (λj x hx=>by rw[LP (hz b tW).2];exact hc j x hx) (λj x hx=>(ht j x hx).mono hz)
 |k9 id sz off len cv h h1 =>
  rcases ho id _ h with h'|⟨_,o',_,hl⟩
  ·exact .k9 id sz off len cv h' h1
  ·exact absurd hl (by simp[Ob.ej])
 |nV id r c cv h h1 =>
  rcases ho id _ h with h'|⟨_,o',_,hl⟩
  ·exact .nV id r c cv h' h1
  ·exact absurd hl (by simp[Ob.ej])
 |ref id sz off len b o cap cap' rows h hb hl hc jV =>
  rcases ho id _ h with h'|⟨gq,o',cm,hk⟩
  ·exact .k9 _ _ _ _ _ h' rfl
  ·cases o'<;>simp[Ob.ej]at hk;obtain⟨rfl,hk⟩:=hk;exact .ref id sz off len b o cap cap' _ cm (gq.trans hb) GK hc jV
 |mK id sz h hb =>
  rcases ho id _ h with h'|⟨gq,o',cm,hk⟩
  ·exact .k9 _ _ _ _ _ h' rfl
  ·cases o'<;>simp[Ob.ej]at hk;obtain⟨rfl,hk⟩:=hk;have bg:=List.eq_nil_of_length_eq_zero hk.symm;subst bg;exact .mK id sz cm (gq.trans hb)
 |nj id sz off b x bo rows h hb hl =>
  rcases ho id _ h with h'|⟨gq,o',cm,hk⟩
  ·exact .k9 _ _ _ _ _ h' rfl
  ·cases o'<;>simp[Ob.ej]at hk;obtain⟨rfl,hk⟩:=hk;exact .nj id sz off b x bo _ cm (gq.trans hb) GK
 |oN id c b cap cells h hb =>
  rcases ho id _ h with h'|⟨gq,o',cm,hk⟩
  ·exact .nV _ _ _ _ h' rfl
  ·cases o'<;>simp[Ob.ej]at hk;exact .oN id c b cap _ cm (gq.trans hb)
 |py id r c sz b o cap rows h hb =>
  rcases ho id _ h with h'|⟨gq,o',cm,hk⟩
  ·exact .nV _ _ _ _ h' rfl
  ·cases o'<;>simp[Ob.ej]at hk;obtain⟨rfl,hk⟩:=hk;exact .py id r c sz b o cap _ cm (gq.trans hb)
 |agg cs bm hs _ ih=>exact .agg cs bm hs ih
 |bD cs bm hs _ ih=>exact .bD cs bm hs ih
 |fn f cs bm hs _ ih=>exact .fn f cs bm hs ih
 |iC t v cv _ ih=>exact .iC t v cv ih
 |dD id b ag L h hb =>
  rcases ho id _ h with h'|⟨gq,o',cm,hk⟩
  ·exact .q9 _ _ h' rfl
  ·cases o'<;>simp[Ob.ej]at hk;subst hk;exact .dD id b _ _ cm (gq.trans hb)
 |q9 id cv h h1 =>
  rcases ho id _ h with h'|⟨_,o',cm,hk⟩
  ·exact .q9 _ _ h' h1
  ·cases o'<;>simp[Ob.ej]at hk
def zm{os gN:List Ob}{w w':World}{Z Z':Nat->Prop}{blk ke:gB}{g:Nat}{cv:Value}(h:aw os w Z blk (AB g) cv)(hz:∀ b,Z b->Z' b/\w'.heap[b]?=w.heap[b]?):aw gN w' Z' ke (AB g) cv:=by
 unfold AB at h ⊢;generalize GV.lookup g=l at h ⊢;cases l with
 |none=>exact .undef _
 |some cs =>
  dsimp only at h ⊢;cases h with
  |cO _ _ h=>cases h
  |cB cells b o f tW hc ht=>exact .cB _ b o f (hz b tW).1 (λj x hx=>by rw[LP (hz b tW).2];exact hc j x hx) (λj x hx=>(ht j x hx).mono hz)
def Live.lt{os:List Ob}{i:Nat}(h:Live os i):i<os.length:=by
 obtain⟨o,ho,_⟩:=h;exact(aV.1 ho).1
def aw.same{os:List Ob}{w w':World}{Z:Nat->Prop}{blk:gB}{v:AV}{cv:Value}(h:aw os w Z blk v cv)(hw:w'.heap=w.heap):aw os w' Z blk v cv :=
 h.mono (λb hb=>⟨hb,by rw[hw]⟩) (λi o ho=>by
  by_cases hg:o=.gone
  ·subst hg;exact .inl ho
  ·exact .inr ⟨rfl,o,ho,Ob.jK hg⟩)
def A7.mono{os gN:List Ob}{w w':World}{Z Z':Nat->Prop}{blk ke:gB}{i:Nat}{o:Ob}(h:A7 os w Z blk i o)(hR:∀ v cv,aw os w Z blk v cv->aw gN w' Z' ke v cv)(hb:ke i=blk i)(hk:∀ b o c,blk i=some (b,o,c)->w'.heap[b]?=w.heap[b]?):A7 gN w' Z' ke i o:=by
 cases o with
 |gone=>trivial
 |var cells =>
  obtain⟨b,cap,cur,t,h1,h2,h3,h4⟩:=h;exact⟨b,cap,cur,t,hb.trans h1,(hk _ _ _ h1).trans h2,h3,λc v hv=>hR _ _ (h4 c v hv)⟩
 |arr sz rows =>
  obtain⟨h0,hr,h⟩:=h;refine⟨h0,hr,?_⟩;rcases h with⟨h1,h2⟩|⟨b,o,cap,cur,t,h1,h2,h3,h4,h5,h6⟩
  ·exact .inl ⟨hb.trans h1,h2⟩
  ·exact .inr ⟨b,o,cap,cur,t,hb.trans h1,(hk _ _ _ h1).trans h2,h3,h4,h5,λr c v hv=>hR _ _ (h6 r c v hv)⟩
 |mp ag L =>
  obtain⟨b,f,h1,h2,h3,h4⟩:=h;exact⟨b,f,hb.trans h1,(hk _ _ _ h1).trans h2,h3,λj p hp=>hR _ _ (h4 j p hp)⟩
def bx.put{σ:St}{γ:Cx}(h:bx σ γ)(d:Nat)(hd:d<γ.tmps.size){v:AV}{cv:Value}(hv:aw σ.aa γ.w γ.Z γ.blk v cv):
  bx { σ with env:=jH σ.env d v } { γ with tmps:=γ.tmps.setIfInBounds d cv } where
 ao:=λk=>by
  simp only[jH];by_cases hk:k=d
  ·subst hk;simp[eL,hd];exact hv
  ·simp only[hk,if_false,eL,Array.getElem?_setIfInBounds_ne (Ne.symm hk)];have:=h.ao k;simpa [eL] using this
 dT:=h.dT
 inj:=h.inj
 nz:=h.nz
 gG:=h.gG
 gl:=h.gl
def bx.Lb{σ:St}{γ:Cx}(h:bx σ γ){w':World}(hw:w'.heap=γ.w.heap):bx σ { γ with w:=w' } where
 ao:=λk=>(h.ao k).same hw
 dT:=λi o ho=>(h.dT i o ho).mono (λv cv hv=>hv.same hw) rfl (λb _ _ _=>by rw[hw])
 inj:=h.inj
 nz:=h.nz
 gG:=λb hb=>by have:=h.gG b hb;simpa [hw] using this
 gl:=λg=>(h.gl g).same hw
theorem Fr.Lb{a b:List Ob}{x y:Cx}(h:Fr a x b y){w':World}(hw:w'.heap=y.w.heap)(h1:w'.os=y.w.os)(h2:w'.tape=y.w.tape)(h3:w'.output=y.w.output)(h4:y.w.drawn<=w'.drawn:=by first|exact Nat.le_refl _|(simp;done)|omega):
  Fr a x b { y with w:=w' } :=
 h.trans ⟨h1,h2,h3,by simp[hw],fun _ _ _=>by simp[hw],fun _ h=>h,fun _ h=>.inl h,fun _ h=>.inl h,Nat.le_refl _,fun _ _ ⟨o,ho,hg⟩=>⟨rfl,o,o,ho,ho,Ob.jK hg⟩,h4⟩
def Fr.put{a b:List Ob}{x y:Cx}(h:Fr a x b y)(t:Array Value):Fr a x b { y with tmps:=t }:=⟨h.lF,h.tape,h.output,h.size,h.ek,h.z0,h.z1,h.own,h.len,h.eA,h.drawn⟩
def df(blk:gB)(n:Nat)(x:Option (Nat×Nat×Nat)):gB:=λi=>if i=n then x else blk i
def ud(os:List Ob)(w:World)(Z:Nat->Prop)(blk:gB)(o cap:Nat)(cur:Array Value):Ob->Prop
 |.gone=>True
 |.var cells=>o=0/\cur.size=cells.length/\∀ c v,cells[c]?=some v->aw os w Z blk v (cur.getD c Go.undef)
 |.arr sz rows=>0<sz/\(∀ row∈rows,row.length=sz)/\o+cap*sz<=cur.size/\rows.length<=cap/\cap<=maxLen /\
    ∀ r c v,cellAt rows r c=some v->aw os w Z blk v (cur.getD (o+(r*sz+c)) Go.undef)
 |.mp _ _=>False
def ud.LH{os gN:List Ob}{w w':World}{Z Z':Nat->Prop}{blk ke:gB}{i b o cap:Nat}{cur:Array Value}{t:TypeId}{ob:Ob}(h:ud os w Z blk o cap cur ob)(hR:∀ v cv,aw os w Z blk v cv->aw gN w' Z' ke v cv)(hb:ke i=some (b,o,cap))(hk:w'.heap[b]?=some (.cells cur t (0,0))):A7 gN w' Z' ke i ob:=by
 cases ob with
 |gone=>trivial
 |var cells =>
  obtain⟨h0,h1,h2⟩:=h;subst h0;exact⟨b,cap,cur,t,hb,hk,h1,λc v hv=>hR _ _ (h2 c v hv)⟩
 |arr sz rows =>
  obtain⟨h0,h1,h2,h3,h4,h5⟩:=h;exact⟨h0,h1,.inr ⟨b,o,cap,cur,t,hb,hk,h2,h3,h4,λr c v hv=>hR _ _ (h5 r c v hv)⟩⟩
 |mp ag L=>exact h.elim
def bx.El{σ:St}{γ:Cx}(h:bx σ γ){w':World}{x:Obj}{cap:Nat}{ob:Ob}(hw:w'.heap=γ.w.heap.push x)(bP:∀ gN w' ke,(∀ v cv,aw σ.aa γ.w γ.Z γ.blk v cv->aw gN w' γ.Z ke v cv)->ke σ.aa.length=some (γ.w.heap.size,0,cap)->w'.heap[γ.w.heap.size]?=some x->A7 gN w' γ.Z ke σ.aa.length ob):
  bx { σ with aa:=σ.aa++[ob] } { γ with w:=w',blk:=df γ.blk σ.aa.length (some (γ.w.heap.size,0,cap)) }:=by
 have aX:∀ b,b<γ.w.heap.size->w'.heap[b]?=γ.w.heap[b]?:=λb hb=>by
  rw[hw,Array.getElem?_push,if_neg GK]
 have hR:∀ v cv,aw σ.aa γ.w γ.Z γ.blk v cv->aw (σ.aa++[ob]) w' γ.Z (df γ.blk σ.aa.length (some (γ.w.heap.size,0,cap))) v cv:=λv cv hv =>
  hv.mono (λb hb=>⟨hb,aX b (h.gG b hb)⟩) (λi o ho=>by
   have hi:i<σ.aa.length:=(aV.1 ho).1;have cm:(σ.aa++[ob])[i]?=some o:=by rw[eZ hi];exact ho
   by_cases bG:o=.gone
   ·subst bG;exact .inl cm
   ·exact .inr ⟨by simp[df,oG hi],o,cm,Ob.jK bG⟩)
 have bS:∀ i,Live (σ.aa++[ob]) i->i=σ.aa.length\/Live σ.aa i:=by
  rintro i⟨o,ho,bG⟩;rcases dP i σ.aa.length with hi|hi
  ·rw[eZ hi]at ho;exact .inr ⟨o,ho,bG⟩
  ·left;have:=(aV.1 ho).1;simp at this;omega
 have ya:∀ i b o c,Live σ.aa i->γ.blk i=some (b,o,c)->b<γ.w.heap.size:=by
  rintro i b o c⟨x,hx,eS⟩hb;have:=h.dT i x hx;cases x with
  |gone=>exact absurd rfl eS
  |var cells =>
   obtain⟨b',cap',lJ,t',h1,h2,_⟩:=this;rw[hb]at h1;simp at h1;obtain⟨rfl,_⟩:=h1;exact(mW.1 h2).1
  |arr sz rows =>
   obtain⟨_,_,⟨h1,_⟩|⟨b',o',cap',lJ,t',h1,h2,_⟩⟩:=this
   ·rw[hb]at h1;simp at h1
   ·rw[hb]at h1;simp at h1;obtain⟨rfl,_⟩:=h1;exact(mW.1 h2).1
  |mp ag L =>
   obtain⟨b',f',h1,h2,_⟩:=this;rw[hb]at h1;simp at h1;obtain⟨rfl,_⟩:=h1;exact(mW.1 h2).1
 refine⟨λk=>hR _ _ (h.ao k),?_,?_,?_,?_,λg=>hR _ _ (h.gl g)⟩
 ·intro i o ho;rcases dP i σ.aa.length with hi|hi
  ·have cm:σ.aa[i]?=some o:=by rw[eZ hi]at ho;exact ho
   by_cases bG:o=.gone
   ·subst bG;trivial
   ·refine(h.dT i o cm).mono hR (by simp[df,oG hi]) (λb x c hb=>aX b (ya i b x c ⟨o,cm,bG⟩ hb))
  ·have ar:i=σ.aa.length:=by
    have:=(aV.1 ho).1;simp at this;omega
   subst ar;simp at ho;subst ho;exact bP _ _ _ hR (by simp[df]) (by rw[hw];simp)
 ·intro i j b o c o' c' hi hj gF iu;simp only[df]at gF iu;rcases bS i hi with rfl|ar<;>rcases bS j hj with rfl|fe
  ·rfl
  ·rw[if_pos rfl]at gF;rw[if_neg (oG fe.lt)]at iu;have:=ya _ _ _ _ fe iu;simp at gF;omega
  ·rw[if_pos rfl]at iu;rw[if_neg (oG ar.lt)]at gF;have:=ya _ _ _ _ ar gF;simp at iu;omega
  ·rw[if_neg (oG fe.lt)]at iu;rw[if_neg (oG ar.lt)]at gF;exact h.inj i j b o c o' c' ar fe gF iu
 ·rintro b ⟨i,o,c,hi,hb⟩ hz;simp only[df]at hb;rcases bS i hi with rfl|ar
  ·rw[if_pos rfl]at hb;simp at hb;have:=h.gG b hz;omega
  ·rw[if_neg (oG ar.lt)]at hb;exact h.nz b ⟨i,o,c,ar,hb⟩ hz
 ·intro b hb;have:=h.gG b hb;rw[hw];simp;omega
def bx.push{σ:St}{γ:Cx}(h:bx σ γ){w':World}{cur:Array Value}{t:TypeId}{cap:Nat}{ob:Ob}(hw:w'.heap=γ.w.heap.push (.cells cur t (0,0)))(bP:ud σ.aa γ.w γ.Z γ.blk 0 cap cur ob):
  bx { σ with aa:=σ.aa++[ob] } { γ with w:=w',blk:=df γ.blk σ.aa.length (some (γ.w.heap.size,0,cap)) } :=
 h.El hw λ_ _ _ hR hb hk=>bP.LH hR hb hk
def bx.blt{σ:St}{γ:Cx}(h:bx σ γ){i b o c:Nat}(hl:Live σ.aa i)(hb:γ.blk i=some (b,o,c)):b<γ.w.heap.size:=by
 obtain⟨x,hx,eS⟩:=hl;have:=h.dT i x hx;cases x with
 |gone=>exact absurd rfl eS
 |var cells =>
  obtain⟨b',cap',lJ,t',h1,h2,_⟩:=this;rw[hb]at h1;simp at h1;obtain⟨rfl,_⟩:=h1;exact(mW.1 h2).1
 |arr sz rows =>
  obtain⟨_,_,⟨h1,_⟩|⟨b',o',cap',lJ,t',h1,h2,_⟩⟩:=this
  ·rw[hb]at h1;simp at h1
  ·rw[hb]at h1;simp at h1;obtain⟨rfl,_⟩:=h1;exact(mW.1 h2).1
 |mp ag L =>
  obtain⟨b',f',h1,h2,_⟩:=this;rw[hb]at h1;simp at h1;obtain⟨rfl,_⟩:=h1;exact(mW.1 h2).1
theorem Fr.El{σ:St}{γ:Cx}{w':World}{x0:Obj}{cap:Nat}(ob:Ob)(hw:w'.heap=γ.w.heap.push x0)(h1:w'.os=γ.w.os)(h2:w'.tape=γ.w.tape)(h3:w'.output=γ.w.output)(h4:γ.w.drawn<=w'.drawn:=by first|exact Nat.le_refl _|(simp;done)|omega):
  Fr σ.aa γ (σ.aa++[ob]) { γ with w:=w',blk:=df γ.blk σ.aa.length (some (γ.w.heap.size,0,cap)) } where
 lF:=h1
 tape:=h2
 output:=h3
 drawn:=h4
 size:=by rw[hw];simp
 ek:=fun b hb _=>by simp only[hw,Array.getElem?_push];rw[if_neg (by omega)]
 z0:=fun _ h=>h
 z1:=fun _ h=>.inl h
 own:=by
  rintro b⟨i,o,c,⟨x,hx,eS⟩,hb⟩;simp only[df]at hb;split at hb
  ·simp at hb;right;omega
  ·rename_i cy;have hi:i<σ.aa.length:=by have:=(List.getElem?_eq_some_iff.1 hx).1;simp at this;omega
   rw[List.getElem?_append_left hi]at hx;exact .inl ⟨i,o,c,⟨x,hx,eS⟩,hb⟩
 len:=by simp
 eA:=by
  rintro i hi⟨x,hx,eS⟩;have hx0:=hx;rw[List.getElem?_append_left hi]at hx;exact⟨by simp[df,Nat.ne_of_lt hi],x,x,hx,hx0,Ob.jK eS⟩
theorem Fr.push{σ:St}{γ:Cx}{w':World}{cur:Array Value}{t:TypeId}{cap:Nat}(ob:Ob)(hw:w'.heap=γ.w.heap.push (.cells cur t (0,0)))(h1:w'.os=γ.w.os)(h2:w'.tape=γ.w.tape)(h3:w'.output=γ.w.output)(h4:γ.w.drawn<=w'.drawn:=by first|exact Nat.le_refl _|(simp;done)|omega):
  Fr σ.aa γ (σ.aa++[ob]) { γ with w:=w',blk:=df γ.blk σ.aa.length (some (γ.w.heap.size,0,cap)) }:=Fr.El ob hw h1 h2 h3 h4
def bx.kill{σ:St}{γ:Cx}(h:bx σ γ)(id:Nat):bx { σ with aa:=σ.aa.set id .gone } γ:=by
 have hR:∀ v cv,aw σ.aa γ.w γ.Z γ.blk v cv->aw (σ.aa.set id .gone) γ.w γ.Z γ.blk v cv:=λv cv hv =>
  hv.mono (λb hb=>⟨hb,rfl⟩) (λi o ho=>by
   have hi:i<σ.aa.length:=(aV.1 ho).1;rw[bU];by_cases nX:id=i
   ·left;simp[nX,hi]
   ·rw[if_neg nX];by_cases bG:o=.gone
    ·subst bG;exact .inl ho
    ·exact .inr ⟨rfl,o,ho,Ob.jK bG⟩)
 have bS:∀ i,Live (σ.aa.set id .gone) i->Live σ.aa i:=by
  rintro i⟨o,ho,bG⟩;rw[bU]at ho;split at ho
  ·split at ho<;>simp at ho;exact absurd ho.symm bG
  ·exact⟨o,ho,bG⟩
 refine⟨λk=>hR _ _ (h.ao k),?_,λi j b o c o' c' hi hj=>h.inj i j b o c o' c' (bS i hi) (bS j hj),?_,h.gG,λg=>hR _ _ (h.gl g)⟩
 ·intro i o ho;rw[bU]at ho;split at ho
  ·split at ho<;>simp at ho;subst ho;trivial
  ·exact(h.dT i o ho).mono hR rfl (λ_ _ _ _=>rfl)
 ·rintro b ⟨i,o,c,hi,hb⟩;exact h.nz b ⟨i,o,c,bS i hi,hb⟩
def Fr.kill(os:List Ob)(γ:Cx)(id:Nat):Fr os γ (os.set id .gone) γ where
 lF:=rfl
 tape:=rfl
 output:=rfl
 size:=aY _
 ek:=λ_ _ _=>rfl
 z0:=λ_ h=>h
 z1:=λ_ h=>.inl h
 own:=by
  rintro b⟨i,o,c,⟨x,hx,eS⟩,hb⟩;rw[bU]at hx;split at hx
  ·split at hx<;>simp at hx;exact absurd hx.symm eS
  ·exact .inl ⟨i,o,c,⟨x,hx,eS⟩,hb⟩
 len:=GM
 eA:=by
  rintro i hi⟨x,hx,eS⟩;have hx0:=hx;rw[bU]at hx;split at hx
  ·split at hx<;>simp at hx;exact absurd hx.symm eS
  ·exact⟨rfl,x,x,hx,hx0,Ob.jK eS⟩
def bx.Hu{σ:St}{γ:Cx}(h:bx σ γ){id:Nat}{ob ob':Ob}(ho:σ.aa[id]?=some ob)(hg:ob≠.gone)(gr:ob.ej ob'){b o cap:Nat}(hb:γ.blk id=some (b,o,cap)){w':World}(nr:∀ k,k≠b->w'.heap[k]?=γ.w.heap[k]?)(aP:w'.heap.size=γ.w.heap.size)(bP:∀ gN,(∀ v cv,aw σ.aa γ.w γ.Z γ.blk v cv->aw gN w' γ.Z γ.blk v cv)->A7 gN w' γ.Z γ.blk id ob'):bx { σ with aa:=σ.aa.set id ob' } { γ with w:=w' }:=by
 have bX:id<σ.aa.length:=(aV.1 ho).1;have ki:Live σ.aa id:=⟨ob,ho,hg⟩;have tX:ob'≠.gone:=by intro e;subst e;cases ob<;>simp[Ob.ej]at gr
 have hR:∀ v cv,aw σ.aa γ.w γ.Z γ.blk v cv->aw (σ.aa.set id ob') w' γ.Z γ.blk v cv:=λv cv hv =>
  hv.mono (λz hz=>⟨hz,nr z (λe=>h.nz b ⟨id,o,cap,ki,hb⟩ (e▸hz))⟩) (λi x hx=>by
   rw[bU];by_cases nX:id=i
   ·subst nX;rw[ho]at hx;simp at hx;subst hx;right;refine⟨rfl,ob',by simp[bX],gr⟩
   ·rw[if_neg nX];by_cases bG:x=.gone
    ·subst bG;exact .inl hx
    ·exact .inr ⟨rfl,x,hx,Ob.jK bG⟩)
 have bS:∀ i,Live (σ.aa.set id ob') i->Live σ.aa i:=by
  rintro i⟨x,hx,eS⟩;rw[bU]at hx;split at hx
  ·rename_i e;subst e;exact ki
  ·exact⟨x,hx,eS⟩
 refine⟨λk=>hR _ _ (h.ao k),?_,λi j b o c o' c' hi hj=>h.inj i j b o c o' c' (bS i hi) (bS j hj),?_,λz hz=>by rw[aP];exact h.gG z hz,λg=>hR _ _ (h.gl g)⟩
 ·intro i x hx;rw[bU]at hx;by_cases nX:id=i
  ·subst nX;rw[if_pos rfl,if_pos bX]at hx;simp at hx;subst hx;exact bP _ hR
  ·rw[if_neg nX]at hx;by_cases bG:x=.gone
   ·subst bG;trivial
   ·refine(h.dT i x hx).mono hR rfl (λz y c hz=>nr z (λe=>nX ?_));subst e;exact h.inj id i z o cap y c ki ⟨x,hx,bG⟩ hb hz
 ·rintro z ⟨i,y,c,hi,hz⟩;exact h.nz z ⟨i,y,c,bS i hi,hz⟩
def bx.write{σ:St}{γ:Cx}(h:bx σ γ){id:Nat}{ob ob':Ob}(ho:σ.aa[id]?=some ob)(hg:ob≠.gone)(gr:ob.ej ob'){b o cap:Nat}(hb:γ.blk id=some (b,o,cap)){w':World}{cur:Array Value}{t:TypeId}(hw:w'.heap[b]?=some (.cells cur t (0,0)))(nr:∀ k,k≠b->w'.heap[k]?=γ.w.heap[k]?)(aP:w'.heap.size=γ.w.heap.size)(bP:ud σ.aa γ.w γ.Z γ.blk o cap cur ob'):bx { σ with aa:=σ.aa.set id ob' } { γ with w:=w' } :=
 h.Hu ho hg gr hb nr aP λ_ hR=>bP.LH hR hb hw
theorem Fr.write{σ:St}{γ:Cx}{id:Nat}{ob:Ob}(ob':Ob)(ho:σ.aa[id]?=some ob)(hg:ob≠.gone)(gr:ob.ej ob'){b o cap:Nat}(hb:γ.blk id=some (b,o,cap)){w':World}(nr:∀ k,k≠b->w'.heap[k]?=γ.w.heap[k]?)(aP:w'.heap.size=γ.w.heap.size)(h1:w'.os=γ.w.os)(h2:w'.tape=γ.w.tape)(h3:w'.output=γ.w.output)(h4:γ.w.drawn<=w'.drawn:=by first|exact Nat.le_refl _|(simp;done)|omega):
  Fr σ.aa γ (σ.aa.set id ob') { γ with w:=w' } where
 lF:=h1
 tape:=h2
 output:=h3
 drawn:=h4
 size:=by simp[aP]
 ek:=fun z _ kE=>nr z (fun e=>kE ⟨id,o,cap,⟨ob,ho,hg⟩,e▸hb⟩)
 z0:=fun _ h=>h
 z1:=fun _ h=>.inl h
 own:=by
  rintro z⟨i,y,c,⟨x,hx,eS⟩,hz⟩;rw[List.getElem?_set]at hx;split at hx
  ·rename_i e;subst e;exact .inl ⟨id,y,c,⟨ob,ho,hg⟩,hz⟩
  ·exact .inl ⟨i,y,c,⟨x,hx,eS⟩,hz⟩
 len:=by simp
 eA:=by
  rintro i hi⟨x,hx,eS⟩;have hx0:=hx;rw[List.getElem?_set]at hx;split at hx
  ·rename_i e;subst e;exact⟨rfl,ob,ob',ho,by rw[List.getElem?_set];simp[hi],gr⟩
  ·exact⟨rfl,x,x,hx,hx0,Ob.jK eS⟩
end Go.Am
namespace Go.Am
structure Ty where
 kind:Nat
 size:Nat
 bytes:Nat
 elem:Nat
 len:Nat
 zero:Option (List Value)
 aQ:List (Nat×Nat×Nat)
def yd(P:Program)(t:TypeId):Nat:=match P.info? t with|some i=>i.size|none=>0
def ty(P:Program)(t:TypeId):Ty :=
 match P.info? t,P.underlying t with
 |some i,some d =>
  let base:Ty:={ kind:=0,size:=i.size,bytes:=i.bytes,elem:=0,len:=0,zero:=i.zero.map (·.cells.toList),aQ:=[] }
  match d with
  |.slice e=>{ base with kind:=1,elem:=e }
  |.array n e=>{ base with kind:=2,elem:=e,len:=n }
  |.struct fs=>{ base with kind:=3,aQ:=fs.toList.map λf=>(f.offset,f.type,yd P f.type) }
  |.string=>{ base with kind:=4 }
  |.int _=>{ base with kind:=5 }
  |.bool=>{ base with kind:=6 }
  |.pointer e=>{ base with kind:=7,elem:=e }
  |.map _ e=>{ base with kind:=8,elem:=e }
  |.func _ _ _=>{ base with kind:=9 }
  |_=>base
 |_,_=>{ kind:=99,size:=0,bytes:=0,elem:=0,len:=0,zero:=none,aQ:=[] }
def Ty.isAgg(t:Ty):Bool:=t.kind==2||t.kind==3
def vu{P:Program}{t:TypeId}(h:(ty P t).kind≠99):∃i d,P.info? t=some i/\P.underlying t=some d/\(ty P t).size=i.size/\(ty P t).bytes=i.bytes/\(ty P t).zero=i.zero.map (·.cells.toList):=by
 unfold ty at h ⊢;cases hi:P.info? t with
 |none=>simp[hi]at h
 |some i =>
  cases hd:P.underlying t with
  |none=>simp[hi,hd]at h
  |some d =>
   refine⟨i,d,rfl,rfl,?_,?_,?_⟩<;>cases d<;>rfl
def vr{P:Program}{t:TypeId}(h:(ty P t).kind=1):P.underlying t=some (.slice (ty P t).elem):=by
 unfold ty at h ⊢;cases hi:P.info? t<;>cases hd:P.underlying t<;>simp[hi,hd]at h ⊢;rename_i i d;cases d<;>simp at h ⊢
def LD{P:Program}{t:TypeId}(h:(ty P t).kind=2):P.underlying t=some (.array (ty P t).len (ty P t).elem):=by
 unfold ty at h ⊢;cases hi:P.info? t<;>cases hd:P.underlying t<;>simp[hi,hd]at h ⊢;rename_i i d;cases d<;>simp at h ⊢
def LB{P:Program}{t:TypeId}(h:(ty P t).kind=3):∃fs,P.underlying t=some (.struct fs)/\(ty P t).aQ=fs.toList.map λf=>(f.offset,f.type,yd P f.type):=by
 unfold ty at h ⊢;cases hi:P.info? t<;>cases hd:P.underlying t<;>simp[hi,hd]at h ⊢;rename_i i d;cases d<;>simp at h ⊢
def afG{P:Program}{t:TypeId}(h:(ty P t).kind=6):P.underlying t=some .bool:=by
 unfold ty at h;cases hi:P.info? t<;>cases hd:P.underlying t<;>simp[hi,hd]at h ⊢;rename_i i d;cases d<;>simp at h ⊢
def eI:Value->AV
 |.agg cs=>.agg (cs.toList.map .lit)
 |v=>.lit v
def ev(σ:St):Operand->AV
 |.tmp t=>σ.env t
 |.const v=>eI v
 |.func f=>.fn f []
 |.global g=>AB g
def St.put(σ:St)(dst:Option Tmp)(v:AV):St :=
 match dst with
 |some d=>{ σ with env:=jH σ.env d v }
 |none=>σ
def c8:AV->Bool
 |.lit v=>v.oneCell'
 |.tree ..|.cB _|.ref ..|.ptr ..|.fn ..|.iC ..|.dD ..=>true
 |_=>false
def cellsOf:AV->List AV
 |.agg cs=>cs
 |v=>[v]
def setCells(cells:List AV)(c:Nat):List AV->List AV
 |[]=>cells
 |v::vs=>setCells (cells.set c v) (c+1) vs
def nf(place:Nat->Option (Nat×Nat))(cells:List AV):List (Nat×AV)->Option (List AV)
 |[]=>some cells
 | (i,v)::rest =>
  match place i with
  |none=>none
  |some (off,size)=>if(cellsOf v).length=size/\off+size<=cells.length then nf place (setCells cells off (cellsOf v)) rest else none
def ng(sz:Nat):Nat->List AV->List (List AV)
 |0,_=>[]
 |n+1,cs=>cs.take sz::ng sz n (cs.drop sz)
def rowOf(σ:St)(id r:Nat):Option (List AV) :=
 match σ.aa[id]? with
 |some (.var cells)=>if r=0 then some cells else none
 |some (.arr _ rows)=>rows[r]?
 |_=>none
def pg(σ:St)(id r:Nat)(row:List AV):St :=
 match σ.aa[id]? with
 |some (.var _)=>{ σ with aa:=σ.aa.set id (.var row) }
 |some (.arr sz rows)=>{ σ with aa:=σ.aa.set id (.arr sz (rows.set r row)) }
 |_=>σ
def nh(t:Ty)(cells:List AV)(c:Nat)(K:AV->Prop):Prop :=
 if t.isAgg then c+t.size<=cells.length/\K (.agg ((cells.drop c).take t.size))
 else match cells[c]? with
  |some v=>K v
  |none=>False
def qg:List AV->Option (List Int)
 |[]=>some []
 |.lit (.int .i64 a)::r=>(qg r).map (a::·)
 |_=>none
def wM(P:Program)(t:TypeId)(n:Nat):Prop :=
 ∀ (w:World) (as bs:List Int),as.length=n->bs.length=n ->
  (Op.equalIn 10000 t (.agg (as.map (Value.int .i64)).toArray) (.agg (bs.map (Value.int .i64)).toArray)).run P w=.ok (decide (as=bs)) w
def CG(k:IntKind)(a b:Int):Int:=k.wrap ((BitVec.ofInt k.bits a &&& BitVec.ofInt k.bits b).toNat)
def Su(a b:Int):Int:=IntKind.i64.wrap ((BitVec.ofInt 64 a &&& BitVec.ofInt 64 b).toNat)
def Sv(a b:Int):CG .i64 a b=Su a b:=by unfold CG Su;rfl
def wQ(k:IntKind)(a b:Int)(K:Value->Prop):Prop:=if k=.u64 then K (.int k (k.wrap (a*b))) else(k.min<=a*b/\a*b<=k.max)/\K (.int k (a*b))
def u9(k:IntKind)(a:Int)(K:Value->Prop):Prop:=if k=.u64 then K (.int k (k.wrap (-a))) else(k.min<=-a/\-a<=k.max)/\K (.int k (-a))
def Sw{a b:Int}{K:Value->Prop}:wQ .i64 a b K=((IntKind.i64.min<=a*b/\a*b<=IntKind.i64.max)/\K (.int .i64 (a*b))):=rfl
def Sx{a b:Int}{K:Value->Prop}:wQ .u64 a b K=K (.int .u64 (IntKind.u64.wrap (a*b))):=rfl
def Sy{a:Int}{K:Value->Prop}:u9 .i64 a K=((IntKind.i64.min<=-a/\-a<=IntKind.i64.max)/\K (.int .i64 (-a))):=rfl
def Sz{a:Int}{K:Value->Prop}:u9 .u64 a K=K (.int .u64 (IntKind.u64.wrap (-a))):=rfl
def gU(op:BinOp)(k:IntKind)(a b:Int)(K:Value->Prop):Prop :=
 match op with
 |.add=>(k.min<=a+b/\a+b<=k.max)/\K (.int k (a+b))
 |.sub=>(k.min<=a-b/\a-b<=k.max)/\K (.int k (a-b))
 |.mul=>wQ k a b K
 |.quo=>(0<=a/\0<b/\a<=k.max)/\K (.int k (a/b))
 |.rem=>b≠0/\K (.int k (a.tmod b))
 |.and=>K (.int k (CG k a b))
 |.shr=>(0<=b/\b.toNat<=k.bits)/\K (.int k (a/2^b.toNat))
 |.eql=>K (.bool (a==b))
 |.neq=>K (.bool (a != b))
 |.lss=>K (.bool (decide (a<b)))
 |.leq=>K (.bool (decide (a<=b)))
 |.gtr=>K (.bool (decide (a > b)))
 |.geq=>K (.bool (decide (a >= b)))
 |_=>False
def gp(t:Bool):AV->AV->AV
 |.lit (.bool x),.lit (.bool y)=>.lit (.bool (bif t then x else y))
 |a,b=>if t then a else b
def oJ(σ:St):AV->Option (Nat×List (List AV))
 |.tree sz rows=>some (sz,rows)
 |.ref id sz off len =>
  match σ.aa[id]? with
  |some (.arr da rows)=>if da=sz then some (sz,(rows.drop off).take len) else none
  |_=>none
 |_=>none
def lW(σ:St)(sz:Nat):AV->Option (List (List AV)×St)
 |.lit (.slice none 0 0)=>some ([],σ)
 |.ref id da off len =>
  match σ.aa[id]? with
  |some (.arr lG rows)=>if lG=da/\da=sz then some ((rows.drop off).take len,{ σ with aa:=σ.aa.set id .gone }) else none
  |_=>none
 |_=>none
end Go.Am
namespace Go.Am
variable (P:Program)
def iH(l:List Int):List (List Int×AV)->Nat->Option Nat
 |[],_=>none
 |p::r,i=>if p.1=l then some i else iH l r (i+1)
def ni(l:List Int)(L:List (List Int×AV)):Option AV:=(iH l L 0).bind λi=>(L[i]?).map (·.2)
def fl(l:List Int)(v:AV)(L:List (List Int×AV)):List (List Int×AV) :=
 match iH l L 0 with
 |some i=>L.set i (l,v)
 |none=>L++[(l,v)]
def Cm(l:List Int)(L:List (List Int×AV)):Nat:=(iH l L 0).getD L.length
def qX(n:Nat)(v:AV)(L:List (List Int×AV)):List (List Int×AV):=L.set n ((L.getD n ([],.undef)).1,v)
def jC(P:Program)(t:TypeId)(ag:Nat):Prop:=∃ kt et,P.underlying t=some (.map kt et)/\∀ l:List Int,l.length=kD ag ->
 (∀ e w,(Instr.checkKey e 10000 kt (kV ag l)).run P w=.ok () w)/\(∀ w,(Instr.keyThatStays (kV ag l) (kV ag l)).run P w=.ok (kV ag l) w) /\
 ∀ (f:Nat->Value) (L:List (List Int×AV)) w,(∀ p∈L,p.1.length=kD ag)->(Instr.findKey kt (kV ag l) (cY (du ag f L)).toList).run P w=.ok ((iH l L 0).map λi=>(i,f i)) w
def zeroV(P:Program)(t:TypeId):Option Value :=
 match P.info? t with
 |some i=>i.zero
 |none=>none
def AD(P:Program)(t:TypeId):Nat :=
 match P.underlying t with
 |some (.map kt _)=>if(ty P kt).isAgg then(ty P kt).size else 0
 |_=>0
def keyOf:AV->Option (Nat×List Int)
 |.lit (.int .i64 n)=>some (0,[n])
 |.agg cs=>(qg cs).map λl=>(l.length,l)
 |_=>none
def mG(σ:St):AV->Option (Nat×Nat×List (List Int×AV))
 |.dD id =>
  match σ.aa[id]? with
  |some (.mp ag L)=>some (id,ag,L)
  |_=>none
 |_=>none
def KB(s:ByteArray)(n:Nat):Int :=
 match s[n]? with
 |some b=>b.toNat
 |none=>0
def AE(P:Program)(t:TypeId):Bool :=
 match P.underlying t with
 |some (.interface _)=>true
 |some _=>false
 |none=>true
def cd (o:Oper) (σ:St) (K:St->Prop):Prop :=
  match o.op with
  | .move x | .assign x=>K (σ.put o.dst (ev σ x))
  | .pick c a b =>
    match ev σ c with
    | .lit (.bool t)=>K (σ.put o.dst (gp t (ev σ a) (ev σ b)))
    | _=>False
  | .alloc e =>
    (ty P e).kind≠99 /\
    match (ty P e).zero with
    | some z=>K (({ σ with aa:=σ.aa++[.var (z.map .lit)] }:St).put o.dst (.ptr σ.aa.length 0 0))
    | none=>False
  | .box _ x=>(cellsOf (ev σ x)).all c8=true/\K (({ σ with aa:=σ.aa++[.var (cellsOf (ev σ x))] }:St).put o.dst (.ptr σ.aa.length 0 0))
  | .build t parts =>
    match (ty P t).kind,(ty P t).zero with
    | 3,some z =>
      match nf (λi=>((ty P t).aQ[i]?).map λf=>(f.1,f.2.2)) (z.map .lit) (parts.toList.map λp=>(p.1,ev σ p.2)) with
      | some cs=>((parts.toList.all λp=>(cellsOf (ev σ p.2)).all c8)=true/\((ty P t).aQ.all λf=>decide (0<f.2.2))=true)/\K (σ.put o.dst (.agg cs))
      | none=>False
    | 2,some z =>
      match nf (λi=>some (i * (ty P (ty P t).elem).size,(ty P (ty P t).elem).size)) (z.map .lit) (parts.toList.map λp=>(p.1,ev σ p.2)) with
      | some cs=>((parts.toList.all λp=>(cellsOf (ev σ p.2)).all c8)=true/\(ty P (ty P t).elem).kind≠99)/\K (σ.put o.dst (.agg cs))
      | none=>False
    | _,_=>False
  | .buildSlice t len parts =>
    match (ty P t).kind,(ty P (ty P t).elem).zero with
    | 1,some z =>
      match nf (λi=>some (i * (ty P (ty P t).elem).size,(ty P (ty P t).elem).size)) ((List.range len).flatMap λ_=>z.map .lit) (parts.toList.map λp=>(p.1,ev σ p.2)) with
      | some cs=>((ty P (ty P t).elem).kind≠99/\0<(ty P (ty P t).elem).size/\z.length=(ty P (ty P t).elem).size/\len * (ty P (ty P t).elem).size<=16777216/\(parts.toList.all λp=>(cellsOf (ev σ p.2)).all c8)=true) /\
          K (({ σ with aa:=σ.aa++[.arr (ty P (ty P t).elem).size (ng (ty P (ty P t).elem).size len cs)] }:St).put o.dst (.ref σ.aa.length (ty P (ty P t).elem).size 0 len))
      | none=>False
    | _,_=>False
  | .load t a =>
    (ty P t).kind≠99 /\
    match ev σ a with
    | .ptr id r c =>
      match rowOf σ id r with
      | some row=>nh (ty P t) row c λv=>K (σ.put o.dst v)
      | none=>False
    | .cB cells=>nh (ty P t) cells 0 λv=>K (σ.put o.dst v)
    | _=>False
  | .store t a x =>
    (ty P t).kind≠99 /\
    match ev σ a with
    | .ptr id r c =>
      match rowOf σ id r with
      | some row=>((cellsOf (ev σ x)).length=(ty P t).size/\c+(ty P t).size<=row.length/\(cellsOf (ev σ x)).all c8=true)/\K ((pg σ id r (setCells row c (cellsOf (ev σ x)))).put o.dst .undef)
      | none=>False
    | _=>False
  | .nilCheck x =>
    match ev σ x with
    | .ptr id r c =>
      match σ.aa[id]? with
      | some .gone=>False
      | some _=>K (σ.put o.dst (.ptr id r c))
      | none=>False
    | .cB cells=>K (σ.put o.dst (.cB cells))
    | _=>False
  | .binOp op t x y _ =>
    match ev σ x,ev σ y with
    | .lit (.int k a),.lit (.int k' b)=>k=k'/\gU op k a b λv=>K (σ.put o.dst (.lit v))
    | .lit (.bool a),.lit (.bool b) =>
      (ty P t).kind=6 /\
      match op with
      | .eql=>K (σ.put o.dst (.lit (.bool (a == b))))
      | .neq=>K (σ.put o.dst (.lit (.bool (a != b))))
      | _=>False
    | .tree _ rows,.lit (.slice none 0 0) =>
      ((ty P t).kind=1/\0<rows.length) /\
      match op with
      | .eql=>K (σ.put o.dst (.lit (.bool false)))
      | .neq=>K (σ.put o.dst (.lit (.bool true)))
      | _=>False
    | .lit (.slice a _ _),.lit (.slice none 0 0) =>
      (ty P t).kind=1 /\
      match op with
      | .eql=>K (σ.put o.dst (.lit (.bool a.isNone)))
      | .neq=>K (σ.put o.dst (.lit (.bool (!a.isNone))))
      | _=>False
    | .agg cs,.agg ds =>
      match qg cs,qg ds with
      | some as,some bs =>
        (wM P t as.length/\bs.length=as.length/\P.eqGuardType P.depth t=false) /\
        match op with
        | .eql=>K (σ.put o.dst (.lit (.bool (decide (as=bs)))))
        | .neq=>K (σ.put o.dst (.lit (.bool (!decide (as=bs)))))
        | _=>False
      | _,_=>False
    | _,_=>False
  | .unOp op _ x =>
    match op,ev σ x with
    | .not,.lit (.bool b)=>K (σ.put o.dst (.lit (.bool !b)))
    | .neg,.lit (.int k a)=>u9 k a λv=>K (σ.put o.dst (.lit v))
    | _,_=>False
  | .makeFunc fn first captured =>
    match fn with
    | .func f=>first.size=0/\K (σ.put o.dst (.fn f (captured.toList.map (ev σ))))
    | _=>False
  | .makeSlice t l c =>
    match (ty P t).kind,(ty P (ty P t).elem).zero,ev σ l,ev σ c with
    | 1,some z,.lit (.int k n),.lit (.int k' n') =>
      ((ty P (ty P t).elem).kind≠99/\0<(ty P (ty P t).elem).size/\z.length=(ty P (ty P t).elem).size/\n'=n/\0<=n/\n<=1099511627776/\(ty P (ty P t).elem).bytes<=128/\k=k) /\
        K (({ σ with aa:=σ.aa++[.arr (ty P (ty P t).elem).size (aK n.toNat (z.map .lit))] }:St).put o.dst (.ref σ.aa.length (ty P (ty P t).elem).size 0 n.toNat))/\k'=k'
    | _,_,_,_=>False
  | .slice t x lo hi mx =>
    (ty P t).kind=1/\(ty P (ty P t).elem).kind≠99/\mx=none /\
    match ev σ x with
    | .ref id sz off len =>
      match σ.aa[id]? with
      | some (.arr da rows) =>
        da=sz/\sz=(ty P (ty P t).elem).size /\
        match lo.map (ev σ),hi.map (ev σ) with
        | none,none=>K (σ.put o.dst (.ref id sz off len))
        | some (.lit (.int _ l)),none=>(0<=l/\l<=len/\rows.length=rows.length)/\K (σ.put o.dst (.ref id sz (off+l.toNat) (len - l.toNat)))
        | none,some (.lit (.int _ h))=>(0<=h/\h<=len)/\K (σ.put o.dst (.ref id sz off h.toNat))
        | some (.lit (.int _ l)),some (.lit (.int _ h))=>(0<=l/\l<=h/\h<=len)/\K (σ.put o.dst (.ref id sz (off+l.toNat) (h.toNat - l.toNat)))
        | _,_=>False
      | _=>False
    | .tree sz rows =>
        (rows≠[]->sz=(ty P (ty P t).elem).size) /\
        match lo.map (ev σ),hi.map (ev σ) with
        | none,none=>K (σ.put o.dst (.tree sz rows))
        | some (.lit (.int _ l)),none=>(0<=l/\l<=rows.length)/\K (σ.put o.dst (.tree sz (rows.drop l.toNat)))
        | none,some (.lit (.int _ h))=>(0<=h/\h<=rows.length)/\K (σ.put o.dst (.tree sz (rows.take h.toNat)))
        | some (.lit (.int _ l)),some (.lit (.int _ h))=>(0<=l/\l<=h/\h<=rows.length)/\K (σ.put o.dst (.tree sz ((rows.take h.toNat).drop l.toNat)))
        | _,_=>False
    | _=>False
  | .fieldAddr s x f =>
    match (ty P s).kind,(ty P s).aQ[f]? with
    | 3,some (off,_,size) =>
      0<size /\
      match ev σ x with
      | .ptr id r c =>
        match σ.aa[id]? with
        | some .gone=>False
        | some _=>K (σ.put o.dst (.ptr id r (c+off)))
        | none=>False
      | .cB cells=>K (σ.put o.dst (.cB (cells.drop off)))
      | _=>False
    | _,_=>False
  | .field s x f =>
    match (ty P s).kind,(ty P s).aQ[f]? with
    | 3,some (off,t,size) =>
      (ty P t).kind≠99/\size=(ty P t).size /\
      match ev σ x with
      | .agg cs=>if (ty P t).isAgg then off+size<=cs.length/\K (σ.put o.dst (.agg ((cs.drop off).take size))) else
          match cs[off]? with
          | some v=>K (σ.put o.dst v)
          | none=>False
      | _=>False
    | _,_=>False
  | .indexAddr t x i =>
    match (ty P t).kind,ev σ x,ev σ i with
    | 1,.ref id sz off len,.lit (.int _ n) =>
      match σ.aa[id]? with
      | some (.arr da _)=>(da=sz/\sz=(ty P (ty P t).elem).size/\(ty P (ty P t).elem).kind≠99/\0<=n/\n<len)/\K (σ.put o.dst (.ptr id (off+n.toNat) 0))
      | _=>False
    | 1,.tree sz rows,.lit (.int _ n)=>(sz=(ty P (ty P t).elem).size/\(ty P (ty P t).elem).kind≠99/\0<=n/\n<rows.length)/\K (σ.put o.dst (.cB (rows.getD n.toNat [])))
    | 2,.ptr id r c,.lit (.int _ n) =>
      match σ.aa[id]? with
      | some .gone=>False
      | some _=>((ty P (ty P t).elem).kind≠99/\0<=n/\n<(ty P t).len)/\K (σ.put o.dst (.ptr id r (c+n.toNat * (ty P (ty P t).elem).size)))
      | none=>False
    | 2,.cB cells,.lit (.int _ n)=>((ty P (ty P t).elem).kind≠99/\0<=n/\n<(ty P t).len)/\K (σ.put o.dst (.cB (cells.drop (n.toNat * (ty P (ty P t).elem).size))))
    | _,_,_=>False
  | .makeMap t r=>(r=none/\(ty P t).kind=8)/\K (({ σ with aa:=σ.aa++[.mp (AD P t) []] }:St).put o.dst (.dD σ.aa.length))
  | .lookup t x i ok =>
    match keyOf (ev σ i),mG σ (ev σ x),zeroV P (ty P t).elem with
    | some (ag,l),some (_,jb,L),some z=>(jC P t ag/\jb=ag/\l.length=kD ag/\(ty P t).kind=8/\ok=false)/\K (σ.put o.dst ((ni l L).getD (.lit z)))
    | _,_,_=>False
  | .mapUpdate t m k x =>
    match keyOf (ev σ k),mG σ (ev σ m) with
    | some (ag,l),some (id,jb,L)=>(jC P t ag/\jb=ag/\l.length=kD ag)/\K (({ σ with aa:=σ.aa.set id (.mp ag (fl l (ev σ x) L)) }:St).put o.dst .undef)
    | _,_=>False
  | .mapEntry t m k =>
    match keyOf (ev σ k),mG σ (ev σ m),zeroV P (ty P t).elem with
    | some (ag,l),some (id,jb,L),some z=>(jC P t ag/\jb=ag/\l.length=kD ag/\(ty P t).kind=8) /\
      K (({ σ with aa:=σ.aa.set id (.mp ag (fl l ((ni l L).getD (.lit z)) L)) }:St).put o.dst (.bD [(ni l L).getD (.lit z),.lit (.int .i64 (Cm l L:Nat))]))
    | _,_,_=>False
  | .entryStore _ m s x =>
    match ev σ s,mG σ (ev σ m) with
    | .lit (.int .i64 n),some (id,ag,L)=>(0<=n/\n<L.length)/\K (({ σ with aa:=σ.aa.set id (.mp ag (qX n.toNat (ev σ x) L)) }:St).put o.dst .undef)
    | _,_=>False
  | .index t x i =>
    match ev σ x,ev σ i with
    | .lit (.string s),.lit (.int _ n)=>(P.underlying t=some .string/\0<=n/\n<s.size)/\K (σ.put o.dst (.lit (.int .u8 (KB s n.toNat))))
    | _,_=>False
  | .makeInterface t x=>AE P t=false/\K (σ.put o.dst (.iC t (ev σ x)))
  | .typeAssert x _ asserted ok =>
    match ev σ x with
    | .iC t v=>(AE P asserted=false/\t=asserted/\ok=false)/\K (σ.put o.dst v)
    | _=>False
  | .extract x i =>
    match ev σ x with
    | .bD vs =>
      match vs[i]? with
      | some v=>K (σ.put o.dst v)
      | none=>False
    | _=>False
  | .call { callee:=.builtin .len,args,argTypes } =>
    match args.toList,argTypes.toList with
    | [x],[t] =>
      match ev σ x with
      | .ref id sz _ len =>
        (ty P t).kind=1 /\
        match σ.aa[id]? with
        | some (.arr da _)=>da=sz/\K (σ.put o.dst (.lit (.int .i64 len)))
        | _=>False
      | .tree _ rows=>(ty P t).kind=1/\K (σ.put o.dst (.lit (.int .i64 rows.length)))
      | .lit (.slice none 0 0)=>(ty P t).kind=1/\K (σ.put o.dst (.lit (.int .i64 0)))
      | .dD id =>
        (ty P t).kind=8 /\
        match σ.aa[id]? with
        | some (.mp _ L)=>K (σ.put o.dst (.lit (.int .i64 L.length)))
        | _=>False
      | _=>False
    | _,_=>False
  | .call { callee:=.builtin .append,args,argTypes } =>
    match args.toList,argTypes.toList with
    | [s,x],[t,t'] =>
      match (ty P t).kind,(ty P (ty P t).elem).zero,lW σ (ty P (ty P t).elem).size (ev σ s),oJ σ (ev σ x) with
      | 1,some z,some (pre,σ1),some (sz,src) =>
        (t'=t/\(ty P (ty P t).elem).kind≠99/\sz=(ty P (ty P t).elem).size/\0<sz/\z.length=sz/\pre.length+src.length<=549755813888/\(ty P (ty P t).elem).bytes<=128/\(src.all λrow=>row.all c8)=true) /\
          K (({ σ1 with aa:=σ1.aa++[.arr sz (pre++src)] }:St).put o.dst (.ref σ1.aa.length sz 0 (pre.length+src.length)))
      | _,_,_,_=>False
    | _,_=>False
  | .call { callee:=.builtin .min,args,argTypes:=_ } =>
    match args.toList with
    | [x,y] =>
      match ev σ x,ev σ y with
      | .lit (.int k a),.lit (.int k' b)=>k=k'/\K (σ.put o.dst (.lit (.int k (min a b))))
      | _,_=>False
    | _=>False
  | .call { callee:=.builtin .max,args,argTypes:=_ } =>
    match args.toList with
    | [x,y] =>
      match ev σ x,ev σ y with
      | .lit (.int k a),.lit (.int k' b)=>k=k'/\K (σ.put o.dst (.lit (.int k (max a b))))
      | _,_=>False
    | _=>False
  | .call { callee:=.builtin .copy,args,argTypes } =>
    match args.toList,argTypes.toList with
    | [s,x],[t,_] =>
      match ev σ s,oJ σ (ev σ x) with
      | .ref id sz off len,some (da,src) =>
        match σ.aa[id]? with
        | some (.arr lG rows) =>
          ((ty P t).kind=1/\(ty P (ty P t).elem).kind≠99/\da=sz/\lG=sz/\sz=(ty P (ty P t).elem).size/\0<sz/\(src.all λrow=>row.all c8)=true) /\
            K (({ σ with aa:=σ.aa.set id (.arr sz (rows.take off++src.take (min src.length len)++rows.drop (off+min src.length len))) }:St).put o.dst (.lit (.int .i64 (min src.length len:Nat))))
        | _=>False
      | _,_=>False
    | _,_=>False
  | .call { callee:=.builtin .clear,args,argTypes } =>
    match args.toList,argTypes.toList with
    | [s],[t] =>
      match ev σ s,(ty P (ty P t).elem).zero with
      | .ref id sz off len,some z =>
        match σ.aa[id]? with
        | some (.arr da rows) =>
          ((ty P t).kind=1/\(ty P (ty P t).elem).kind≠99/\da=sz/\z.length=sz/\0<sz/\(z.all λu=>u.oneCell')=true) /\
            K (({ σ with aa:=σ.aa.set id (.arr sz (rows.take off++aK len (z.map AV.lit)++rows.drop (off+len))) }:St).put o.dst (.lit (.tuple #[])))
        | _=>False
      | _,_=>False
    | _,_=>False
  | .convert s d x =>
    match P.underlying d,ev σ x with
    | some (.int k),.lit (.int _ n)=>(P.underlying s).isSome=true/\K (σ.put o.dst (.lit (.int k (k.wrap n))))
    | _,_=>False
  | _=>False
end Go.Am

