import Derived.Test.YtjadfapldkfbpaaGreatX00
import Derived.Orders
import Derived.Laws.AppendOwn
import Derived.Laws.MakeOwn
import Derived.Laws.Slices
import Derived.Laws.Small
set_option linter.all false
set_option maxHeartbeats 0
set_option maxRecDepth 20000
open Nat renaming le_refl→aR,le_trans→j',lt_of_lt_of_le→PW,ne_of_lt→oO,lt_or_ge→fN
open List renaming getElem?_eq_some_iff→aY,getElem?_append_left→dg,getElem?_set→cm,replicate→bG
open Array renaming getD_eq_getD_getElem?→fU,getElem?_eq_some_iff→pB
namespace Go.Am
inductive AV where
 |undef
 |lit (v:Value)
 |tree (sz:Nat) (rows:List (List AV))
 |bm (cells:List AV)
 |ref (id sz off len:Nat)
 |ptr (id r c:Nat)
 |agg (cs:List AV)
 |bH (vs:List AV)
 |fn (f:FuncId) (a6:List AV)
 |ja (t:TypeId) (v:AV)
 |g6 (id:Nat)
 deriving Inhabited
abbrev aaa(n:Int):AV:=.lit (.int .i64 n)
inductive Ob where
 |gone
 |var (cells:List AV)
 |arr (sz:Nat) (rows:List (List AV))
 |mp (ag:Nat) (L:List (List Int×AV))
 deriving Inhabited
structure St where
 env:Nat->AV
 aa:List Ob
def jT(e:Nat->AV)(d:Nat)(v:AV):Nat->AV:=λk=>if k=d then v else e k
def cellAt(rows:List (List AV))(r c:Nat):Option AV:=(rows[r]?).bind (·[c]?)
def dy(ents:List (Value×Value)):Array MapEntry:=(ents.mapIdx λi p=>(⟨p.1,p.2,i⟩:MapEntry)).toArray
def kV(ag:Nat)(l:List Int):Value:=if ag=0 then .int .i64 (l.headD 0) else .agg (l.map λn=>.int .i64 n).toArray
def lg(ag:Nat):Nat:=if ag=0 then 1 else ag
def dR(ag:Nat)(f:Nat->Value)(L:List (List Int×AV)):List (Value×Value):=L.mapIdx λj p=>(kV ag p.1,f j)
def Le(ag:Nat)(f:Nat->Value)(g:AV->AV)(L:List (List Int×AV)):dR ag f (L.map λp=>(p.1,g p.2))=dR ag f L:=by
 unfold dR;apply List.ext_getElem
 ·simp
 ·intros;simp
abbrev ij:=Nat->Option (Nat×Nat×Nat)
inductive gk(w:World)(Z:Nat->Prop):AV->Value->Prop where
 |lit (v:Value):gk w Z (.lit v) v
 |nil (sz cap:Nat) (a:Option Addr):gk w Z (.tree sz []) (.slice a 0 cap)
 |tree (sz:Nat) (rows:List (List AV)) (b o cap:Nat) (f:Nat->Nat->Value) (hz:Z b) (hr:∀ row∈rows,row.length=sz) (EC:rows.length<=cap)
   (hc:∀ r c x,cellAt rows r c=some x->w.cell? ⟨b,o+(r*sz+c),none⟩=some (f r c))
   (ht:∀ r c x,cellAt rows r c=some x->gk w Z x (f r c)):gk w Z (.tree sz rows) (.slice (some ⟨b,o,none⟩) rows.length cap)
inductive aA(os:List Ob)(w:World)(Z:Nat->Prop)(blk:ij):AV->Value->Prop where
 |undef (cv:Value):aA os w Z blk .undef cv
 |cp (v:AV) (cv:Value) (h:gk w Z v cv):aA os w Z blk v cv
 |bm (cells:List AV) (b o:Nat) (f:Nat->Value) (hz:Z b) (hc:∀ j x,cells[j]?=some x->w.cell? ⟨b,o+j,none⟩=some (f j))
   (ht:∀ j x,cells[j]?=some x->gk w Z x (f j)):aA os w Z blk (.bm cells) (.pointer (some ⟨b,o,none⟩))
 |lV (id sz off len:Nat) (cv:Value) (h:os[id]?=some .gone) (h1:cv.oneCell'=true):aA os w Z blk (.ref id sz off len) cv
 |od (id r c:Nat) (cv:Value) (h:os[id]?=some .gone) (h1:cv.oneCell'=true):aA os w Z blk (.ptr id r c) cv
 |ref (id sz off len b o cap cap':Nat) (rows:List (List AV)) (h:os[id]?=some (.arr sz rows)) (hb:blk id=some (b,o,cap))
   (hl:off+len<=rows.length) (hc:off+cap'<=cap) (ld:len<=cap'):aA os w Z blk (.ref id sz off len) (.slice (some ⟨b,o+off*sz,none⟩) len cap')
 |nA (id sz:Nat) (h:os[id]?=some (.arr sz [])) (hb:blk id=none):aA os w Z blk (.ref id sz 0 0) (.slice none 0 0)
 |oe (id sz off b x:Nat) (bo:Nat×Nat) (rows:List (List AV)) (h:os[id]?=some (.arr sz rows)) (hb:blk id=some (b,bo)) (hl:off<=rows.length) :
   aA os w Z blk (.ref id sz off 0) (.slice (some ⟨b,x,none⟩) 0 0)
 |oS (id c b cap:Nat) (cells:List AV) (h:os[id]?=some (.var cells)) (hb:blk id=some (b,0,cap)):aA os w Z blk (.ptr id 0 c) (.pointer (some ⟨b,c,none⟩))
 |pM (id r c sz b o cap:Nat) (rows:List (List AV)) (h:os[id]?=some (.arr sz rows)) (hb:blk id=some (b,o,cap)) :
   aA os w Z blk (.ptr id r c) (.pointer (some ⟨b,o+(r*sz+c),none⟩))
 |agg (cs:List AV) (bz:Array Value) (hs:bz.size=cs.length) (h:∀ j x,cs[j]?=some x->aA os w Z blk x (bz.getD j Go.undef)):aA os w Z blk (.agg cs) (.agg bz)
 |bH (cs:List AV) (bz:Array Value) (hs:bz.size=cs.length) (h:∀ j x,cs[j]?=some x->aA os w Z blk x (bz.getD j Go.undef)):aA os w Z blk (.bH cs) (.tuple bz)
 |fn (f:FuncId) (cs:List AV) (bz:Array Value) (hs:bz.size=cs.length) (h:∀ j x,cs[j]?=some x->aA os w Z blk x (bz.getD j Go.undef)) :
   aA os w Z blk (.fn f cs) (.func (.func f) #[] bz)
 |ja (t:TypeId) (v:AV) (cv:Value) (h:aA os w Z blk v cv):aA os w Z blk (.ja t v) (.iface t cv)
 |g6 (id b:Nat) (ag:Nat) (L:List (List Int×AV)) (h:os[id]?=some (.mp ag L)) (hb:blk id=some (b,0,0)):aA os w Z blk (.g6 id) (.map (some b))
 |rG (id:Nat) (cv:Value) (h:os[id]?=some .gone) (h1:cv.oneCell'=true):aA os w Z blk (.g6 id) cv
def AG (os:List Ob) (w:World) (Z:Nat->Prop) (blk:ij) (i:Nat):Ob->Prop
  | .gone=>True
  | .var cells=>∃ b cap cur t,blk i=some (b,0,cap)/\w.heap[b]?=some (.cells cur t (0,0))/\cur.size=cells.length /\
      ∀ c v,cells[c]?=some v->aA os w Z blk v (cur.getD c Go.undef)
  | .arr sz rows=>0<sz/\(∀ row∈rows,row.length=sz) /\
      ((blk i=none/\rows=[])\/∃ b o cap cur t,blk i=some (b,o,cap)/\w.heap[b]?=some (.cells cur t (0,0))/\o+cap * sz<=cur.size/\rows.length<=cap/\cap<=maxLen /\
        ∀ r c v,cellAt rows r c=some v->aA os w Z blk v (cur.getD (o+(r * sz+c)) Go.undef))
  | .mp ag L=>∃ b,∃ f:Nat->Value,blk i=some (b,0,0)/\w.heap[b]?=some (.map (dy (dR ag f L)) L.length)/\(∀ p∈L,p.1.length=lg ag)/\∀ (j:Nat) p,L[j]?=some p->aA os w Z blk p.2 (f j)
def Ad(g:Nat):AV :=
 match Hh.lookup g with
 |some cs=>.bm (cs.map .lit)
 |none=>.undef
structure Cx where
 w:World
 tmps:Array Value
 Z:Nat->Prop
 blk:ij
def Live(os:List Ob)(i:Nat):Prop:=∃ o,os[i]?=some o/\o≠.gone
def qw(os:List Ob)(blk:ij)(b:Nat):Prop:=∃ i o cap,Live os i/\blk i=some (b,o,cap)
structure bC(σ:St)(γ:Cx):Prop where
 au:∀ k,aA σ.aa γ.w γ.Z γ.blk (σ.env k) (γ.tmps.getD k Go.undef)
 fF:∀ (i:Nat) o,σ.aa[i]?=some o->AG σ.aa γ.w γ.Z γ.blk i o
 inj:∀ i j b o c o' c',Live σ.aa i->Live σ.aa j->γ.blk i=some (b,o,c)->γ.blk j=some (b,o',c')->i=j
 nz:∀ b,qw σ.aa γ.blk b->¬ γ.Z b
 jm:∀ b,γ.Z b->b<γ.w.heap.size
 gl:∀ g,aA σ.aa γ.w γ.Z γ.blk (Ad g) (.pointer (some ⟨g,0,none⟩))
def Ob.fj:Ob->Ob->Prop
 |.var a,.var b=>a.length=b.length
 |.arr s a,.arr s' b=>s=s'/\a.length=b.length
 |.mp a _,.mp b _=>a=b
 |_,_=>False
def Ob.kK{o:Ob}(h:o≠.gone):o.fj o:=by
 cases o<;>simp_all [Ob.fj]
def Ob.LU{a b c:Ob}(h:a.fj b)(k:b.fj c):a.fj c:=by
 cases a<;>cases b<;>cases c<;>simp_all [Ob.fj]
def Ob.Se{a b:Ob}(h:a.fj b):a≠.gone/\b≠.gone:=by
 cases a<;>cases b<;>simp_all [Ob.fj]
structure Fr(Cu:List Ob)(qD:Cx)(os:List Ob)(γ:Cx):Prop where
 nt:γ.w.os=qD.w.os
 tape:γ.w.tape=qD.w.tape
 output:γ.w.output=qD.w.output
 size:qD.w.heap.size<=γ.w.heap.size
 aH:∀ b,b<qD.w.heap.size->¬ qw Cu qD.blk b->γ.w.heap[b]?=qD.w.heap[b]?
 z0:∀ b,qD.Z b->γ.Z b
 z1:∀ b,γ.Z b->qD.Z b\/qw Cu qD.blk b\/qD.w.heap.size<=b
 own:∀ b,qw os γ.blk b->qw Cu qD.blk b\/qD.w.heap.size<=b
 len:Cu.length<=os.length
 lk:∀ i,i<Cu.length->Live os i->γ.blk i=qD.blk i/\∃ o o',Cu[i]?=some o/\os[i]?=some o'/\o.fj o'
 drawn:qD.w.drawn<=γ.w.drawn:=by first|exact aR _|(simp;done)|omega
def Fr.refl(os:List Ob)(γ:Cx):Fr os γ os γ :=
 ⟨rfl,rfl,rfl,aR _,λ_ _ _=>rfl,λ_ h=>h,λ_ h=>.inl h,λ_ h=>.inl h,aR _,λ_ _ ⟨o,ho,hg⟩=>⟨rfl,o,o,ho,ho,Ob.kK hg⟩,aR _⟩
def Fr.trans{a b c:List Ob}{x y z:Cx}(h:Fr a x b y)(k:Fr b y c z):Fr a x c z where
 nt:=k.nt.trans h.nt
 tape:=k.tape.trans h.tape
 output:=k.output.trans h.output
 drawn:=j' h.drawn k.drawn
 size:=j' h.size k.size
 aH:=λn hn ho=>(k.aH n (PW hn h.size) (λhw=>(h.own n hw).elim ho (λhl=>G3))).trans (h.aH n hn ho)
 z0:=λn hn=>k.z0 n (h.z0 n hn)
 z1:=λn hn=>by
  rcases k.z1 n hn with h1|h1|h1
  ·exact h.z1 n h1
  ·rcases h.own n h1 with h2|h2
   ·exact .inr (.inl h2)
   ·exact .inr (.inr h2)
  ·exact .inr (.inr (j' h.size h1))
 own:=λn hn=>by
  rcases k.own n hn with h1|h1
  ·exact h.own n h1
  ·exact .inr (j' h.size h1)
 len:=j' h.len k.len
 lk:=λi hi hl=>by
  obtain⟨h1,o,o',ho,cy,hk⟩:=k.lk i (PW hi h.len) hl;obtain⟨h3,x,x',hx,cV,aL⟩:=h.lk i hi ⟨o,ho,(Ob.Se hk).1⟩;rw[ho]at cV;simp at cV;subst cV;exact⟨h1.trans h3,x,o',hx,cy,Ob.LU aL hk⟩
def LV{w w':World}{b o:Nat}(h:w'.heap[b]?=w.heap[b]?):w'.cell? ⟨b,o,none⟩=w.cell? ⟨b,o,none⟩:=by
 simp[World.cell?,h]
def gk.mono{w w':World}{Z Z':Nat->Prop}{v:AV}{cv:Value}(h:gk w Z v cv)(hz:∀ b,Z b->Z' b/\w'.heap[b]?=w.heap[b]?):gk w' Z' v cv:=by
 induction h with
 |lit v=>exact .lit v
 |nil sz cap a=>exact .nil sz cap a
 |tree sz rows b o cap f tH hr EC hc _ ih =>
  exact .tree sz rows b o cap f (hz b tH).1 hr EC (λr c x hx=>by rw[LV (hz b tH).2];exact hc r c x hx) ih
def aA.mono{os os':List Ob}{w w':World}{Z Z':Nat->Prop}{blk kI:ij}{v:AV}{cv:Value}(h:aA os w Z blk v cv)(hz:∀ b,Z b->Z' b/\w'.heap[b]?=w.heap[b]?)(ho:∀ i o,os[i]?=some o->os'[i]?=some .gone\/(kI i=blk i/\∃ o',os'[i]?=some o'/\o.fj o')):aA os' w' Z' kI v cv:=by
 induction h with
 |undef cv=>exact .undef cv
 |cp v cv h=>exact .cp v cv (h.mono hz)
 |bm cells b o f tH hc ht =>
  exact .bm cells b o f (hz b tH).1 (λj x hx=>by rw[LV (hz b tH).2];exact hc j x hx) (λj x hx=>(ht j x hx).mono hz)
 |lV id sz off len cv h h1 =>
  rcases ho id _ h with h'|⟨_,o',_,hl⟩
  ·exact .lV id sz off len cv h' h1
  ·exact absurd hl (by simp[Ob.fj])
 |od id r c cv h h1 =>
  rcases ho id _ h with h'|⟨_,o',_,hl⟩
  ·exact .od id r c cv h' h1
  ·exact absurd hl (by simp[Ob.fj])
 |ref id sz off len b o cap cap' rows h hb hl hc ld =>
  rcases ho id _ h with h'|⟨g7,o',cy,hk⟩
  ·exact .lV _ _ _ _ _ h' rfl
  ·cases o'<;>simp[Ob.fj]at hk;obtain⟨rfl,hk⟩:=hk;exact .ref id sz off len b o cap cap' _ cy (g7.trans hb) G3 hc ld
 |nA id sz h hb =>
  rcases ho id _ h with h'|⟨g7,o',cy,hk⟩
  ·exact .lV _ _ _ _ _ h' rfl
  ·cases o'<;>simp[Ob.fj]at hk;obtain⟨rfl,hk⟩:=hk;have aL:=List.eq_nil_of_length_eq_zero hk.symm;subst aL;exact .nA id sz cy (g7.trans hb)
 |oe id sz off b x bo rows h hb hl =>
  rcases ho id _ h with h'|⟨g7,o',cy,hk⟩
  ·exact .lV _ _ _ _ _ h' rfl
  ·cases o'<;>simp[Ob.fj]at hk;obtain⟨rfl,hk⟩:=hk;exact .oe id sz off b x bo _ cy (g7.trans hb) G3
 |oS id c b cap cells h hb =>
  rcases ho id _ h with h'|⟨g7,o',cy,hk⟩
  ·exact .od _ _ _ _ h' rfl
  ·cases o'<;>simp[Ob.fj]at hk;exact .oS id c b cap _ cy (g7.trans hb)
 |pM id r c sz b o cap rows h hb =>
  rcases ho id _ h with h'|⟨g7,o',cy,hk⟩
  ·exact .od _ _ _ _ h' rfl
  ·cases o'<;>simp[Ob.fj]at hk;obtain⟨rfl,hk⟩:=hk;exact .pM id r c sz b o cap _ cy (g7.trans hb)
 |agg cs bz hs _ ih=>exact .agg cs bz hs ih
 |bH cs bz hs _ ih=>exact .bH cs bz hs ih
 |fn f cs bz hs _ ih=>exact .fn f cs bz hs ih
 |ja t v cv _ ih=>exact .ja t v cv ih
 |g6 id b ag L h hb =>
  rcases ho id _ h with h'|⟨g7,o',cy,hk⟩
  ·exact .rG _ _ h' rfl
  ·cases o'<;>simp[Ob.fj]at hk;subst hk;exact .g6 id b _ _ cy (g7.trans hb)
 |rG id cv h h1 =>
  rcases ho id _ h with h'|⟨_,o',cy,hk⟩
  ·exact .rG _ _ h' h1
  ·cases o'<;>simp[Ob.fj]at hk
def Cd{os os':List Ob}{w w':World}{Z Z':Nat->Prop}{blk kI:ij}{g:Nat}{cv:Value}(h:aA os w Z blk (Ad g) cv)(hz:∀ b,Z b->Z' b/\w'.heap[b]?=w.heap[b]?):aA os' w' Z' kI (Ad g) cv:=by
 unfold Ad at h ⊢;generalize Hh.lookup g=l at h ⊢;cases l with
 |none=>exact .undef _
 |some cs =>
  dsimp only at h ⊢;cases h with
  |cp _ _ h=>cases h
  |bm cells b o f tH hc ht=>exact .bm _ b o f (hz b tH).1 (λj x hx=>by rw[LV (hz b tH).2];exact hc j x hx) (λj x hx=>(ht j x hx).mono hz)
def Live.lt{os:List Ob}{i:Nat}(h:Live os i):i<os.length:=by
 obtain⟨o,ho,_⟩:=h;exact(aY.1 ho).1
def aA.same{os:List Ob}{w w':World}{Z:Nat->Prop}{blk:ij}{v:AV}{cv:Value}(h:aA os w Z blk v cv)(hw:w'.heap=w.heap):aA os w' Z blk v cv :=
 h.mono (λb hb=>⟨hb,by rw[hw]⟩) (λi o ho=>by
  by_cases hg:o=.gone
  ·subst hg;exact .inl ho
  ·exact .inr ⟨rfl,o,ho,Ob.kK hg⟩)
def AG.mono{os os':List Ob}{w w':World}{Z Z':Nat->Prop}{blk kI:ij}{i:Nat}{o:Ob}(h:AG os w Z blk i o)(hR:∀ v cv,aA os w Z blk v cv->aA os' w' Z' kI v cv)(hb:kI i=blk i)(hk:∀ b o c,blk i=some (b,o,c)->w'.heap[b]?=w.heap[b]?):AG os' w' Z' kI i o:=by
 cases o with
 |gone=>trivial
 |var cells =>
  obtain⟨b,cap,cur,t,h1,h2,h3,h4⟩:=h;exact⟨b,cap,cur,t,hb.trans h1,(hk _ _ _ h1).trans h2,h3,λc v hv=>hR _ _ (h4 c v hv)⟩
 |arr sz rows =>
  obtain⟨h0,hr,h⟩:=h;refine⟨h0,hr,?_⟩;rcases h with⟨h1,h2⟩|⟨b,o,cap,cur,t,h1,h2,h3,h4,h5,h6⟩
  ·exact .inl ⟨hb.trans h1,h2⟩
  ·exact .inr ⟨b,o,cap,cur,t,hb.trans h1,(hk _ _ _ h1).trans h2,h3,h4,h5,λr c v hv=>hR _ _ (h6 r c v hv)⟩
 |mp ag L =>
  obtain⟨b,f,h1,h2,h3,h4⟩:=h;exact⟨b,f,hb.trans h1,(hk _ _ _ h1).trans h2,h3,λj p hp=>hR _ _ (h4 j p hp)⟩
def bC.put{σ:St}{γ:Cx}(h:bC σ γ)(d:Nat)(hd:d<γ.tmps.size){v:AV}{cv:Value}(hv:aA σ.aa γ.w γ.Z γ.blk v cv):
  bC { σ with env:=jT σ.env d v } { γ with tmps:=γ.tmps.setIfInBounds d cv } where
 au:=λk=>by
  simp only[jT];by_cases hk:k=d
  ·subst hk;simp[fU,hd];exact hv
  ·simp only[hk,if_false,fU,Array.getElem?_setIfInBounds_ne (Ne.symm hk)];have:=h.au k;simpa [fU] using this
 fF:=h.fF
 inj:=h.inj
 nz:=h.nz
 jm:=h.jm
 gl:=h.gl
def bC.Ln{σ:St}{γ:Cx}(h:bC σ γ){w':World}(hw:w'.heap=γ.w.heap):bC σ { γ with w:=w' } where
 au:=λk=>(h.au k).same hw
 fF:=λi o ho=>(h.fF i o ho).mono (λv cv hv=>hv.same hw) rfl (λb _ _ _=>by rw[hw])
 inj:=h.inj
 nz:=h.nz
 jm:=λb hb=>by have:=h.jm b hb;simpa [hw] using this
 gl:=λg=>(h.gl g).same hw
theorem Fr.Ln{a b:List Ob}{x y:Cx}(h:Fr a x b y){w':World}(hw:w'.heap=y.w.heap)(h1:w'.os=y.w.os)(h2:w'.tape=y.w.tape)(h3:w'.output=y.w.output)(h4:y.w.drawn<=w'.drawn:=by first|exact Nat.le_refl _|(simp;done)|omega):
  Fr a x b { y with w:=w' } :=
 h.trans ⟨h1,h2,h3,by simp[hw],fun _ _ _=>by simp[hw],fun _ h=>h,fun _ h=>.inl h,fun _ h=>.inl h,Nat.le_refl _,fun _ _ ⟨o,ho,hg⟩=>⟨rfl,o,o,ho,ho,Ob.kK hg⟩,h4⟩
def Fr.put{a b:List Ob}{x y:Cx}(h:Fr a x b y)(t:Array Value):Fr a x b { y with tmps:=t }:=⟨h.nt,h.tape,h.output,h.size,h.aH,h.z0,h.z1,h.own,h.len,h.lk,h.drawn⟩
def dM(blk:ij)(n:Nat)(x:Option (Nat×Nat×Nat)):ij:=λi=>if i=n then x else blk i
def uY(os:List Ob)(w:World)(Z:Nat->Prop)(blk:ij)(o cap:Nat)(cur:Array Value):Ob->Prop
 |.gone=>True
 |.var cells=>o=0/\cur.size=cells.length/\∀ c v,cells[c]?=some v->aA os w Z blk v (cur.getD c Go.undef)
 |.arr sz rows=>0<sz/\(∀ row∈rows,row.length=sz)/\o+cap*sz<=cur.size/\rows.length<=cap/\cap<=maxLen /\
    ∀ r c v,cellAt rows r c=some v->aA os w Z blk v (cur.getD (o+(r*sz+c)) Go.undef)
 |.mp _ _=>False
def uY.LN{os os':List Ob}{w w':World}{Z Z':Nat->Prop}{blk kI:ij}{i b o cap:Nat}{cur:Array Value}{t:TypeId}{ob:Ob}(h:uY os w Z blk o cap cur ob)(hR:∀ v cv,aA os w Z blk v cv->aA os' w' Z' kI v cv)(hb:kI i=some (b,o,cap))(hk:w'.heap[b]?=some (.cells cur t (0,0))):AG os' w' Z' kI i ob:=by
 cases ob with
 |gone=>trivial
 |var cells =>
  obtain⟨h0,h1,h2⟩:=h;subst h0;exact⟨b,cap,cur,t,hb,hk,h1,λc v hv=>hR _ _ (h2 c v hv)⟩
 |arr sz rows =>
  obtain⟨h0,h1,h2,h3,h4,h5⟩:=h;exact⟨h0,h1,.inr ⟨b,o,cap,cur,t,hb,hk,h2,h3,h4,λr c v hv=>hR _ _ (h5 r c v hv)⟩⟩
 |mp ag L=>exact h.elim
def bC.Er{σ:St}{γ:Cx}(h:bC σ γ){w':World}{x:Obj}{cap:Nat}{ob:Ob}(hw:w'.heap=γ.w.heap.push x)(a8:∀ os' w' kI,(∀ v cv,aA σ.aa γ.w γ.Z γ.blk v cv->aA os' w' γ.Z kI v cv)->kI σ.aa.length=some (γ.w.heap.size,0,cap)->w'.heap[γ.w.heap.size]?=some x->AG os' w' γ.Z kI σ.aa.length ob):
  bC { σ with aa:=σ.aa++[ob] } { γ with w:=w',blk:=dM γ.blk σ.aa.length (some (γ.w.heap.size,0,cap)) }:=by
 have bx:∀ b,b<γ.w.heap.size->w'.heap[b]?=γ.w.heap[b]?:=λb hb=>by
  rw[hw,Array.getElem?_push,if_neg G3]
 have hR:∀ v cv,aA σ.aa γ.w γ.Z γ.blk v cv->aA (σ.aa++[ob]) w' γ.Z (dM γ.blk σ.aa.length (some (γ.w.heap.size,0,cap))) v cv:=λv cv hv =>
  hv.mono (λb hb=>⟨hb,bx b (h.jm b hb)⟩) (λi o ho=>by
   have hi:i<σ.aa.length:=(aY.1 ho).1;have cy:(σ.aa++[ob])[i]?=some o:=by rw[dg hi];exact ho
   by_cases bE:o=.gone
   ·subst bE;exact .inl cy
   ·exact .inr ⟨by simp[dM,oO hi],o,cy,Ob.kK bE⟩)
 have c9:∀ i,Live (σ.aa++[ob]) i->i=σ.aa.length\/Live σ.aa i:=by
  rintro i⟨o,ho,bE⟩;rcases fN i σ.aa.length with hi|hi
  ·rw[dg hi]at ho;exact .inr ⟨o,ho,bE⟩
  ·left;have:=(aY.1 ho).1;simp at this;omega
 have qu:∀ i b o c,Live σ.aa i->γ.blk i=some (b,o,c)->b<γ.w.heap.size:=by
  rintro i b o c⟨x,hx,ed⟩hb;have:=h.fF i x hx;cases x with
  |gone=>exact absurd rfl ed
  |var cells =>
   obtain⟨b',cap',qA,t',h1,h2,_⟩:=this;rw[hb]at h1;simp at h1;obtain⟨rfl,_⟩:=h1;exact(pB.1 h2).1
  |arr sz rows =>
   obtain⟨_,_,⟨h1,_⟩|⟨b',o',cap',qA,t',h1,h2,_⟩⟩:=this
   ·rw[hb]at h1;simp at h1
   ·rw[hb]at h1;simp at h1;obtain⟨rfl,_⟩:=h1;exact(pB.1 h2).1
  |mp ag L =>
   obtain⟨b',f',h1,h2,_⟩:=this;rw[hb]at h1;simp at h1;obtain⟨rfl,_⟩:=h1;exact(pB.1 h2).1
 refine⟨λk=>hR _ _ (h.au k),?_,?_,?_,?_,λg=>hR _ _ (h.gl g)⟩
 ·intro i o ho;rcases fN i σ.aa.length with hi|hi
  ·have cy:σ.aa[i]?=some o:=by rw[dg hi]at ho;exact ho
   by_cases bE:o=.gone
   ·subst bE;trivial
   ·refine(h.fF i o cy).mono hR (by simp[dM,oO hi]) (λb x c hb=>bx b (qu i b x c ⟨o,cy,bE⟩ hb))
  ·have hi':i=σ.aa.length:=by
    have:=(aY.1 ho).1;simp at this;omega
   subst hi';simp at ho;subst ho;exact a8 _ _ _ hR (by simp[dM]) (by rw[hw];simp)
 ·intro i j b o c o' c' hi hj im iT;simp only[dM]at im iT;rcases c9 i hi with rfl|hi'<;>rcases c9 j hj with rfl|dx
  ·rfl
  ·rw[if_pos rfl]at im;rw[if_neg (oO dx.lt)]at iT;have:=qu _ _ _ _ dx iT;simp at im;omega
  ·rw[if_pos rfl]at iT;rw[if_neg (oO hi'.lt)]at im;have:=qu _ _ _ _ hi' im;simp at iT;omega
  ·rw[if_neg (oO dx.lt)]at iT;rw[if_neg (oO hi'.lt)]at im;exact h.inj i j b o c o' c' hi' dx im iT
 ·rintro b ⟨i,o,c,hi,hb⟩ hz;simp only[dM]at hb;rcases c9 i hi with rfl|hi'
  ·rw[if_pos rfl]at hb;simp at hb;have:=h.jm b hz;omega
  ·rw[if_neg (oO hi'.lt)]at hb;exact h.nz b ⟨i,o,c,hi',hb⟩ hz
 ·intro b hb;have:=h.jm b hb;rw[hw];simp;omega
def bC.push{σ:St}{γ:Cx}(h:bC σ γ){w':World}{cur:Array Value}{t:TypeId}{cap:Nat}{ob:Ob}(hw:w'.heap=γ.w.heap.push (.cells cur t (0,0)))(a8:uY σ.aa γ.w γ.Z γ.blk 0 cap cur ob):
  bC { σ with aa:=σ.aa++[ob] } { γ with w:=w',blk:=dM γ.blk σ.aa.length (some (γ.w.heap.size,0,cap)) } :=
 h.Er hw λ_ _ _ hR hb hk=>a8.LN hR hb hk
def bC.blt{σ:St}{γ:Cx}(h:bC σ γ){i b o c:Nat}(hl:Live σ.aa i)(hb:γ.blk i=some (b,o,c)):b<γ.w.heap.size:=by
 obtain⟨x,hx,ed⟩:=hl;have:=h.fF i x hx;cases x with
 |gone=>exact absurd rfl ed
 |var cells =>
  obtain⟨b',cap',qA,t',h1,h2,_⟩:=this;rw[hb]at h1;simp at h1;obtain⟨rfl,_⟩:=h1;exact(pB.1 h2).1
 |arr sz rows =>
  obtain⟨_,_,⟨h1,_⟩|⟨b',o',cap',qA,t',h1,h2,_⟩⟩:=this
  ·rw[hb]at h1;simp at h1
  ·rw[hb]at h1;simp at h1;obtain⟨rfl,_⟩:=h1;exact(pB.1 h2).1
 |mp ag L =>
  obtain⟨b',f',h1,h2,_⟩:=this;rw[hb]at h1;simp at h1;obtain⟨rfl,_⟩:=h1;exact(pB.1 h2).1
theorem Fr.Er{σ:St}{γ:Cx}{w':World}{x0:Obj}{cap:Nat}(ob:Ob)(hw:w'.heap=γ.w.heap.push x0)(h1:w'.os=γ.w.os)(h2:w'.tape=γ.w.tape)(h3:w'.output=γ.w.output)(h4:γ.w.drawn<=w'.drawn:=by first|exact Nat.le_refl _|(simp;done)|omega):
  Fr σ.aa γ (σ.aa++[ob]) { γ with w:=w',blk:=dM γ.blk σ.aa.length (some (γ.w.heap.size,0,cap)) } where
 nt:=h1
 tape:=h2
 output:=h3
 drawn:=h4
 size:=by rw[hw];simp
 aH:=fun b hb _=>by simp only[hw,Array.getElem?_push];rw[if_neg (by omega)]
 z0:=fun _ h=>h
 z1:=fun _ h=>.inl h
 own:=by
  rintro b⟨i,o,c,⟨x,hx,ed⟩,hb⟩;simp only[dM]at hb;split at hb
  ·simp at hb;right;omega
  ·rename_i ew;have hi:i<σ.aa.length:=by have:=(List.getElem?_eq_some_iff.1 hx).1;simp at this;omega
   rw[List.getElem?_append_left hi]at hx;exact .inl ⟨i,o,c,⟨x,hx,ed⟩,hb⟩
 len:=by simp
 lk:=by
  rintro i hi⟨x,hx,ed⟩;have hx0:=hx;rw[List.getElem?_append_left hi]at hx;exact⟨by simp[dM,Nat.ne_of_lt hi],x,x,hx,hx0,Ob.kK ed⟩
theorem Fr.push{σ:St}{γ:Cx}{w':World}{cur:Array Value}{t:TypeId}{cap:Nat}(ob:Ob)(hw:w'.heap=γ.w.heap.push (.cells cur t (0,0)))(h1:w'.os=γ.w.os)(h2:w'.tape=γ.w.tape)(h3:w'.output=γ.w.output)(h4:γ.w.drawn<=w'.drawn:=by first|exact Nat.le_refl _|(simp;done)|omega):
  Fr σ.aa γ (σ.aa++[ob]) { γ with w:=w',blk:=dM γ.blk σ.aa.length (some (γ.w.heap.size,0,cap)) }:=Fr.Er ob hw h1 h2 h3 h4
def bC.kill{σ:St}{γ:Cx}(h:bC σ γ)(id:Nat):bC { σ with aa:=σ.aa.set id .gone } γ:=by
 have hR:∀ v cv,aA σ.aa γ.w γ.Z γ.blk v cv->aA (σ.aa.set id .gone) γ.w γ.Z γ.blk v cv:=λv cv hv =>
  hv.mono (λb hb=>⟨hb,rfl⟩) (λi o ho=>by
   have hi:i<σ.aa.length:=(aY.1 ho).1;rw[cm];by_cases oo:id=i
   ·left;simp[oo,hi]
   ·rw[if_neg oo];by_cases bE:o=.gone
    ·subst bE;exact .inl ho
    ·exact .inr ⟨rfl,o,ho,Ob.kK bE⟩)
 have c9:∀ i,Live (σ.aa.set id .gone) i->Live σ.aa i:=by
  rintro i⟨o,ho,bE⟩;rw[cm]at ho;split at ho
  ·split at ho<;>simp at ho;exact absurd ho.symm bE
  ·exact⟨o,ho,bE⟩
 refine⟨λk=>hR _ _ (h.au k),?_,λi j b o c o' c' hi hj=>h.inj i j b o c o' c' (c9 i hi) (c9 j hj),?_,h.jm,λg=>hR _ _ (h.gl g)⟩
 ·intro i o ho;rw[cm]at ho;split at ho
  ·split at ho<;>simp at ho;subst ho;trivial
  ·exact(h.fF i o ho).mono hR rfl (λ_ _ _ _=>rfl)
 ·rintro b ⟨i,o,c,hi,hb⟩;exact h.nz b ⟨i,o,c,c9 i hi,hb⟩
def Fr.kill(os:List Ob)(γ:Cx)(id:Nat):Fr os γ (os.set id .gone) γ where
 nt:=rfl
 tape:=rfl
 output:=rfl
 size:=aR _
 aH:=λ_ _ _=>rfl
 z0:=λ_ h=>h
 z1:=λ_ h=>.inl h
 own:=by
  rintro b⟨i,o,c,⟨x,hx,ed⟩,hb⟩;rw[cm]at hx;split at hx
  ·split at hx<;>simp at hx;exact absurd hx.symm ed
  ·exact .inl ⟨i,o,c,⟨x,hx,ed⟩,hb⟩
 len:=G9
 lk:=by
  rintro i hi⟨x,hx,ed⟩;have hx0:=hx;rw[cm]at hx;split at hx
  ·split at hx<;>simp at hx;exact absurd hx.symm ed
  ·exact⟨rfl,x,x,hx,hx0,Ob.kK ed⟩
def bC.HP{σ:St}{γ:Cx}(h:bC σ γ){id:Nat}{ob ob':Ob}(ho:σ.aa[id]?=some ob)(hg:ob≠.gone)(g9:ob.fj ob'){b o cap:Nat}(hb:γ.blk id=some (b,o,cap)){w':World}(pQ:∀ k,k≠b->w'.heap[k]?=γ.w.heap[k]?)(bg:w'.heap.size=γ.w.heap.size)(a8:∀ os',(∀ v cv,aA σ.aa γ.w γ.Z γ.blk v cv->aA os' w' γ.Z γ.blk v cv)->AG os' w' γ.Z γ.blk id ob'):bC { σ with aa:=σ.aa.set id ob' } { γ with w:=w' }:=by
 have cT:id<σ.aa.length:=(aY.1 ho).1;have qz:Live σ.aa id:=⟨ob,ho,hg⟩;have tI:ob'≠.gone:=by intro e;subst e;cases ob<;>simp[Ob.fj]at g9
 have hR:∀ v cv,aA σ.aa γ.w γ.Z γ.blk v cv->aA (σ.aa.set id ob') w' γ.Z γ.blk v cv:=λv cv hv =>
  hv.mono (λz hz=>⟨hz,pQ z (λe=>h.nz b ⟨id,o,cap,qz,hb⟩ (e▸hz))⟩) (λi x hx=>by
   rw[cm];by_cases oo:id=i
   ·subst oo;rw[ho]at hx;simp at hx;subst hx;right;refine⟨rfl,ob',by simp[cT],g9⟩
   ·rw[if_neg oo];by_cases bE:x=.gone
    ·subst bE;exact .inl hx
    ·exact .inr ⟨rfl,x,hx,Ob.kK bE⟩)
 have c9:∀ i,Live (σ.aa.set id ob') i->Live σ.aa i:=by
  rintro i⟨x,hx,ed⟩;rw[cm]at hx;split at hx
  ·rename_i e;subst e;exact qz
  ·exact⟨x,hx,ed⟩
 refine⟨λk=>hR _ _ (h.au k),?_,λi j b o c o' c' hi hj=>h.inj i j b o c o' c' (c9 i hi) (c9 j hj),?_,λz hz=>by rw[bg];exact h.jm z hz,λg=>hR _ _ (h.gl g)⟩
 ·intro i x hx;rw[cm]at hx;by_cases oo:id=i
  ·subst oo;rw[if_pos rfl,if_pos cT]at hx;simp at hx;subst hx;exact a8 _ hR
  ·rw[if_neg oo]at hx;by_cases bE:x=.gone
   ·subst bE;trivial
   ·refine(h.fF i x hx).mono hR rfl (λz y c hz=>pQ z (λe=>oo ?_));subst e;exact h.inj id i z o cap y c qz ⟨x,hx,bE⟩ hb hz
 ·rintro z ⟨i,y,c,hi,hz⟩;exact h.nz z ⟨i,y,c,c9 i hi,hz⟩
def bC.write{σ:St}{γ:Cx}(h:bC σ γ){id:Nat}{ob ob':Ob}(ho:σ.aa[id]?=some ob)(hg:ob≠.gone)(g9:ob.fj ob'){b o cap:Nat}(hb:γ.blk id=some (b,o,cap)){w':World}{cur:Array Value}{t:TypeId}(hw:w'.heap[b]?=some (.cells cur t (0,0)))(pQ:∀ k,k≠b->w'.heap[k]?=γ.w.heap[k]?)(bg:w'.heap.size=γ.w.heap.size)(a8:uY σ.aa γ.w γ.Z γ.blk o cap cur ob'):bC { σ with aa:=σ.aa.set id ob' } { γ with w:=w' } :=
 h.HP ho hg g9 hb pQ bg λ_ hR=>a8.LN hR hb hw
theorem Fr.write{σ:St}{γ:Cx}{id:Nat}{ob:Ob}(ob':Ob)(ho:σ.aa[id]?=some ob)(hg:ob≠.gone)(g9:ob.fj ob'){b o cap:Nat}(hb:γ.blk id=some (b,o,cap)){w':World}(pQ:∀ k,k≠b->w'.heap[k]?=γ.w.heap[k]?)(bg:w'.heap.size=γ.w.heap.size)(h1:w'.os=γ.w.os)(h2:w'.tape=γ.w.tape)(h3:w'.output=γ.w.output)(h4:γ.w.drawn<=w'.drawn:=by first|exact Nat.le_refl _|(simp;done)|omega):
  Fr σ.aa γ (σ.aa.set id ob') { γ with w:=w' } where
 nt:=h1
 tape:=h2
 output:=h3
 drawn:=h4
 size:=by simp[bg]
 aH:=fun z _ nD=>pQ z (fun e=>nD ⟨id,o,cap,⟨ob,ho,hg⟩,e▸hb⟩)
 z0:=fun _ h=>h
 z1:=fun _ h=>.inl h
 own:=by
  rintro z⟨i,y,c,⟨x,hx,ed⟩,hz⟩;rw[List.getElem?_set]at hx;split at hx
  ·rename_i e;subst e;exact .inl ⟨id,y,c,⟨ob,ho,hg⟩,hz⟩
  ·exact .inl ⟨i,y,c,⟨x,hx,ed⟩,hz⟩
 len:=by simp
 lk:=by
  rintro i hi⟨x,hx,ed⟩;have hx0:=hx;rw[List.getElem?_set]at hx;split at hx
  ·rename_i e;subst e;exact⟨rfl,ob,ob',ho,by rw[List.getElem?_set];simp[hi],g9⟩
  ·exact⟨rfl,x,x,hx,hx0,Ob.kK ed⟩
end Go.Am
namespace Go.Am
structure Ty where
 kind:Nat
 size:Nat
 bytes:Nat
 elem:Nat
 len:Nat
 zero:Option (List Value)
 a5:List (Nat×Nat×Nat)
def vZ(P:Program)(t:TypeId):Nat:=match P.info? t with|some i=>i.size|none=>0
def ty(P:Program)(t:TypeId):Ty :=
 match P.info? t,P.underlying t with
 |some i,some d =>
  let base:Ty:={ kind:=0,size:=i.size,bytes:=i.bytes,elem:=0,len:=0,zero:=i.zero.map (·.cells.toList),a5:=[] }
  match d with
  |.slice e=>{ base with kind:=1,elem:=e }
  |.array n e=>{ base with kind:=2,elem:=e,len:=n }
  |.struct fs=>{ base with kind:=3,a5:=fs.toList.map λf=>(f.offset,f.type,vZ P f.type) }
  |.string=>{ base with kind:=4 }
  |.int _=>{ base with kind:=5 }
  |.bool=>{ base with kind:=6 }
  |.pointer e=>{ base with kind:=7,elem:=e }
  |.map _ e=>{ base with kind:=8,elem:=e }
  |.func _ _ _=>{ base with kind:=9 }
  |_=>base
 |_,_=>{ kind:=99,size:=0,bytes:=0,elem:=0,len:=0,zero:=none,a5:=[] }
def Ty.isAgg(t:Ty):Bool:=t.kind==2||t.kind==3
def tA{P:Program}{t:TypeId}(h:(ty P t).kind≠99):∃i d,P.info? t=some i/\P.underlying t=some d/\(ty P t).size=i.size/\(ty P t).bytes=i.bytes/\(ty P t).zero=i.zero.map (·.cells.toList):=by
 unfold ty at h ⊢;cases hi:P.info? t with
 |none=>simp[hi]at h
 |some i =>
  cases hd:P.underlying t with
  |none=>simp[hi,hd]at h
  |some d =>
   refine⟨i,d,rfl,rfl,?_,?_,?_⟩<;>cases d<;>rfl
def u4{P:Program}{t:TypeId}(h:(ty P t).kind=1):P.underlying t=some (.slice (ty P t).elem):=by
 unfold ty at h ⊢;cases hi:P.info? t<;>cases hd:P.underlying t<;>simp[hi,hd]at h ⊢;rename_i i d;cases d<;>simp at h ⊢
def LM{P:Program}{t:TypeId}(h:(ty P t).kind=2):P.underlying t=some (.array (ty P t).len (ty P t).elem):=by
 unfold ty at h ⊢;cases hi:P.info? t<;>cases hd:P.underlying t<;>simp[hi,hd]at h ⊢;rename_i i d;cases d<;>simp at h ⊢
def D1{P:Program}{t:TypeId}(h:(ty P t).kind=3):∃fs,P.underlying t=some (.struct fs)/\(ty P t).a5=fs.toList.map λf=>(f.offset,f.type,vZ P f.type):=by
 unfold ty at h ⊢;cases hi:P.info? t<;>cases hd:P.underlying t<;>simp[hi,hd]at h ⊢;rename_i i d;cases d<;>simp at h ⊢
def aeO{P:Program}{t:TypeId}(h:(ty P t).kind=6):P.underlying t=some .bool:=by
 unfold ty at h;cases hi:P.info? t<;>cases hd:P.underlying t<;>simp[hi,hd]at h ⊢;rename_i i d;cases d<;>simp at h ⊢
def fc:Value->AV
 |.agg cs=>.agg (cs.toList.map .lit)
 |v=>.lit v
def ev(σ:St):Operand->AV
 |.tmp t=>σ.env t
 |.const v=>fc v
 |.func f=>.fn f []
 |.global g=>Ad g
def St.put(σ:St)(dst:Option Tmp)(v:AV):St :=
 match dst with
 |some d=>{ σ with env:=jT σ.env d v }
 |none=>σ
def cJ:AV->Bool
 |.lit v=>v.oneCell'
 |.tree ..|.bm _|.ref ..|.ptr ..|.fn ..|.ja ..|.g6 ..=>true
 |_=>false
def cellsOf:AV->List AV
 |.agg cs=>cs
 |v=>[v]
def setCells(cells:List AV)(c:Nat):List AV->List AV
 |[]=>cells
 |v::vs=>setCells (cells.set c v) (c+1) vs
def nu(place:Nat->Option (Nat×Nat))(cells:List AV):List (Nat×AV)->Option (List AV)
 |[]=>some cells
 | (i,v)::rest =>
  match place i with
  |none=>none
  |some (off,size)=>if(cellsOf v).length=size/\off+size<=cells.length then nu place (setCells cells off (cellsOf v)) rest else none
def nw(sz:Nat):Nat->List AV->List (List AV)
 |0,_=>[]
 |n+1,cs=>cs.take sz::nw sz n (cs.drop sz)
def rowOf(σ:St)(id r:Nat):Option (List AV) :=
 match σ.aa[id]? with
 |some (.var cells)=>if r=0 then some cells else none
 |some (.arr _ rows)=>rows[r]?
 |_=>none
def pD(σ:St)(id r:Nat)(row:List AV):St :=
 match σ.aa[id]? with
 |some (.var _)=>{ σ with aa:=σ.aa.set id (.var row) }
 |some (.arr sz rows)=>{ σ with aa:=σ.aa.set id (.arr sz (rows.set r row)) }
 |_=>σ
def nx(t:Ty)(cells:List AV)(c:Nat)(K:AV->Prop):Prop :=
 if t.isAgg then c+t.size<=cells.length/\K (.agg ((cells.drop c).take t.size))
 else match cells[c]? with
  |some v=>K v
  |none=>False
def qm:List AV->Option (List Int)
 |[]=>some []
 |.lit (.int .i64 a)::r=>(qm r).map (a::·)
 |_=>none
def v9(P:Program)(t:TypeId)(n:Nat):Prop :=
 ∀ (w:World) (as bs:List Int),as.length=n->bs.length=n ->
  (Op.equalIn 10000 t (.agg (as.map (Value.int .i64)).toArray) (.agg (bs.map (Value.int .i64)).toArray)).run P w=.ok (decide (as=bs)) w
def Ck(k:IntKind)(a b:Int):Int:=k.wrap ((BitVec.ofInt k.bits a &&& BitVec.ofInt k.bits b).toNat)
def EF(a b:Int):Int:=IntKind.i64.wrap ((BitVec.ofInt 64 a &&& BitVec.ofInt 64 b).toNat)
def Q9(a b:Int):Ck .i64 a b=EF a b:=by unfold Ck EF;rfl
def wi(k:IntKind)(a b:Int)(K:Value->Prop):Prop:=if k=.u64 then K (.int k (k.wrap (a*b))) else(k.min<=a*b/\a*b<=k.max)/\K (.int k (a*b))
def uM(k:IntKind)(a:Int)(K:Value->Prop):Prop:=if k=.u64 then K (.int k (k.wrap (-a))) else(k.min<=-a/\-a<=k.max)/\K (.int k (-a))
def Sf{a b:Int}{K:Value->Prop}:wi .i64 a b K=((IntKind.i64.min<=a*b/\a*b<=IntKind.i64.max)/\K (.int .i64 (a*b))):=rfl
def Sg{a b:Int}{K:Value->Prop}:wi .u64 a b K=K (.int .u64 (IntKind.u64.wrap (a*b))):=rfl
def Sh{a:Int}{K:Value->Prop}:uM .i64 a K=((IntKind.i64.min<=-a/\-a<=IntKind.i64.max)/\K (.int .i64 (-a))):=rfl
def Si{a:Int}{K:Value->Prop}:uM .u64 a K=K (.int .u64 (IntKind.u64.wrap (-a))):=rfl
def iC(op:BinOp)(k:IntKind)(a b:Int)(K:Value->Prop):Prop :=
 match op with
 |.add=>(k.min<=a+b/\a+b<=k.max)/\K (.int k (a+b))
 |.sub=>(k.min<=a-b/\a-b<=k.max)/\K (.int k (a-b))
 |.mul=>wi k a b K
 |.quo=>(0<=a/\0<b/\a<=k.max)/\K (.int k (a/b))
 |.rem=>b≠0/\K (.int k (a.tmod b))
 |.and=>K (.int k (Ck k a b))
 |.shr=>(0<=b/\b.toNat<=k.bits)/\K (.int k (a/2^b.toNat))
 |.eql=>K (.bool (a==b))
 |.neq=>K (.bool (a != b))
 |.lss=>K (.bool (decide (a<b)))
 |.leq=>K (.bool (decide (a<=b)))
 |.gtr=>K (.bool (decide (a > b)))
 |.geq=>K (.bool (decide (a >= b)))
 |_=>False
def gW(t:Bool):AV->AV->AV
 |.lit (.bool x),.lit (.bool y)=>.lit (.bool (bif t then x else y))
 |a,b=>if t then a else b
def oR(σ:St):AV->Option (Nat×List (List AV))
 |.tree sz rows=>some (sz,rows)
 |.ref id sz off len =>
  match σ.aa[id]? with
  |some (.arr dL rows)=>if dL=sz then some (sz,(rows.drop off).take len) else none
  |_=>none
 |_=>none
def pF(σ:St)(sz:Nat):AV->Option (List (List AV)×St)
 |.lit (.slice none 0 0)=>some ([],σ)
 |.ref id dL off len =>
  match σ.aa[id]? with
  |some (.arr lU rows)=>if lU=dL/\dL=sz then some ((rows.drop off).take len,{ σ with aa:=σ.aa.set id .gone }) else none
  |_=>none
 |_=>none
end Go.Am
namespace Go.Am
variable (P:Program)
def kM(l:List Int):List (List Int×AV)->Nat->Option Nat
 |[],_=>none
 |p::r,i=>if p.1=l then some i else kM l r (i+1)
def pE(l:List Int)(L:List (List Int×AV)):Option AV:=(kM l L 0).bind λi=>(L[i]?).map (·.2)
def gX(l:List Int)(v:AV)(L:List (List Int×AV)):List (List Int×AV) :=
 match kM l L 0 with
 |some i=>L.set i (l,v)
 |none=>L++[(l,v)]
def B5(l:List Int)(L:List (List Int×AV)):Nat:=(kM l L 0).getD L.length
def rA(n:Nat)(v:AV)(L:List (List Int×AV)):List (List Int×AV):=L.set n ((L.getD n ([],.undef)).1,v)
def mV(P:Program)(t:TypeId)(ag:Nat):Prop:=∃ kt et,P.underlying t=some (.map kt et)/\∀ l:List Int,l.length=lg ag ->
 (∀ e w,(Instr.checkKey e 10000 kt (kV ag l)).run P w=.ok () w)/\(∀ w,(Instr.keyThatStays (kV ag l) (kV ag l)).run P w=.ok (kV ag l) w) /\
 ∀ (f:Nat->Value) (L:List (List Int×AV)) w,(∀ p∈L,p.1.length=lg ag)->(Instr.findKey kt (kV ag l) (dy (dR ag f L)).toList).run P w=.ok ((kM l L 0).map λi=>(i,f i)) w
def zeroV(P:Program)(t:TypeId):Option Value :=
 match P.info? t with
 |some i=>i.zero
 |none=>none
def D2(P:Program)(t:TypeId):Nat :=
 match P.underlying t with
 |some (.map kt _)=>if(ty P kt).isAgg then(ty P kt).size else 0
 |_=>0
def keyOf:AV->Option (Nat×List Int)
 |.lit (.int .i64 n)=>some (0,[n])
 |.agg cs=>(qm cs).map λl=>(l.length,l)
 |_=>none
def mU(σ:St):AV->Option (Nat×Nat×List (List Int×AV))
 |.g6 id =>
  match σ.aa[id]? with
  |some (.mp ag L)=>some (id,ag,L)
  |_=>none
 |_=>none
def KM(s:ByteArray)(n:Nat):Int :=
 match s[n]? with
 |some b=>b.toNat
 |none=>0
def Af(P:Program)(t:TypeId):Bool :=
 match P.underlying t with
 |some (.interface _)=>true
 |some _=>false
 |none=>true
def cE (o:Oper) (σ:St) (K:St->Prop):Prop :=
  match o.op with
  | .move x | .assign x=>K (σ.put o.dst (ev σ x))
  | .pick c a b =>
    match ev σ c with
    | .lit (.bool t)=>K (σ.put o.dst (gW t (ev σ a) (ev σ b)))
    | _=>False
  | .alloc e =>
    (ty P e).kind≠99 /\
    match (ty P e).zero with
    | some z=>K (({ σ with aa:=σ.aa++[.var (z.map .lit)] }:St).put o.dst (.ptr σ.aa.length 0 0))
    | none=>False
  | .box _ x=>(cellsOf (ev σ x)).all cJ=true/\K (({ σ with aa:=σ.aa++[.var (cellsOf (ev σ x))] }:St).put o.dst (.ptr σ.aa.length 0 0))
  | .build t parts =>
    match (ty P t).kind,(ty P t).zero with
    | 3,some z =>
      match nu (λi=>((ty P t).a5[i]?).map λf=>(f.1,f.2.2)) (z.map .lit) (parts.toList.map λp=>(p.1,ev σ p.2)) with
      | some cs=>((parts.toList.all λp=>(cellsOf (ev σ p.2)).all cJ)=true/\((ty P t).a5.all λf=>decide (0<f.2.2))=true)/\K (σ.put o.dst (.agg cs))
      | none=>False
    | 2,some z =>
      match nu (λi=>some (i * (ty P (ty P t).elem).size,(ty P (ty P t).elem).size)) (z.map .lit) (parts.toList.map λp=>(p.1,ev σ p.2)) with
      | some cs=>((parts.toList.all λp=>(cellsOf (ev σ p.2)).all cJ)=true/\(ty P (ty P t).elem).kind≠99)/\K (σ.put o.dst (.agg cs))
      | none=>False
    | _,_=>False
  | .buildSlice t len parts =>
    match (ty P t).kind,(ty P (ty P t).elem).zero with
    | 1,some z =>
      match nu (λi=>some (i * (ty P (ty P t).elem).size,(ty P (ty P t).elem).size)) ((List.range len).flatMap λ_=>z.map .lit) (parts.toList.map λp=>(p.1,ev σ p.2)) with
      | some cs=>((ty P (ty P t).elem).kind≠99/\0<(ty P (ty P t).elem).size/\z.length=(ty P (ty P t).elem).size/\len * (ty P (ty P t).elem).size<=16777216/\(parts.toList.all λp=>(cellsOf (ev σ p.2)).all cJ)=true) /\
          K (({ σ with aa:=σ.aa++[.arr (ty P (ty P t).elem).size (nw (ty P (ty P t).elem).size len cs)] }:St).put o.dst (.ref σ.aa.length (ty P (ty P t).elem).size 0 len))
      | none=>False
    | _,_=>False
  | .load t a =>
    (ty P t).kind≠99 /\
    match ev σ a with
    | .ptr id r c =>
      match rowOf σ id r with
      | some row=>nx (ty P t) row c λv=>K (σ.put o.dst v)
      | none=>False
    | .bm cells=>nx (ty P t) cells 0 λv=>K (σ.put o.dst v)
    | _=>False
  | .store t a x =>
    (ty P t).kind≠99 /\
    match ev σ a with
    | .ptr id r c =>
      match rowOf σ id r with
      | some row=>((cellsOf (ev σ x)).length=(ty P t).size/\c+(ty P t).size<=row.length/\(cellsOf (ev σ x)).all cJ=true)/\K ((pD σ id r (setCells row c (cellsOf (ev σ x)))).put o.dst .undef)
      | none=>False
    | _=>False
  | .nilCheck x =>
    match ev σ x with
    | .ptr id r c =>
      match σ.aa[id]? with
      | some .gone=>False
      | some _=>K (σ.put o.dst (.ptr id r c))
      | none=>False
    | .bm cells=>K (σ.put o.dst (.bm cells))
    | _=>False
  | .binOp op t x y _ =>
    match ev σ x,ev σ y with
    | .lit (.int k a),.lit (.int k' b)=>k=k'/\iC op k a b λv=>K (σ.put o.dst (.lit v))
    | .lit (.bool a),.lit (.bool b) =>
      (ty P t).kind=6 /\
      match op with
      | .eql=>K (σ.put o.dst (.lit (.bool (a == b))))
      | .neq=>K (σ.put o.dst (.lit (.bool (a != b))))
      | _=>False
    | .tree _ rows,.lit (.slice none 0 0) =>
      ((ty P t).kind=1/\0<rows.length) /\
      match op with
      | .eql=>K (σ.put o.dst (.lit (.bool false)))
      | .neq=>K (σ.put o.dst (.lit (.bool true)))
      | _=>False
    | .lit (.slice a _ _),.lit (.slice none 0 0) =>
      (ty P t).kind=1 /\
      match op with
      | .eql=>K (σ.put o.dst (.lit (.bool a.isNone)))
      | .neq=>K (σ.put o.dst (.lit (.bool (!a.isNone))))
      | _=>False
    | .agg cs,.agg ds =>
      match qm cs,qm ds with
      | some as,some bs =>
        (v9 P t as.length/\bs.length=as.length/\P.eqGuardType P.depth t=false) /\
        match op with
        | .eql=>K (σ.put o.dst (.lit (.bool (decide (as=bs)))))
        | .neq=>K (σ.put o.dst (.lit (.bool (!decide (as=bs)))))
        | _=>False
      | _,_=>False
    | _,_=>False
  | .unOp op _ x =>
    match op,ev σ x with
    | .not,.lit (.bool b)=>K (σ.put o.dst (.lit (.bool !b)))
    | .neg,.lit (.int k a)=>uM k a λv=>K (σ.put o.dst (.lit v))
    | _,_=>False
  | .makeFunc fn first captured =>
    match fn with
    | .func f=>first.size=0/\K (σ.put o.dst (.fn f (captured.toList.map (ev σ))))
    | _=>False
  | .makeSlice t l c =>
    match (ty P t).kind,(ty P (ty P t).elem).zero,ev σ l,ev σ c with
    | 1,some z,.lit (.int k n),.lit (.int k' n') =>
      ((ty P (ty P t).elem).kind≠99/\0<(ty P (ty P t).elem).size/\z.length=(ty P (ty P t).elem).size/\n'=n/\0<=n/\n<=1099511627776/\(ty P (ty P t).elem).bytes<=128/\k=k) /\
        K (({ σ with aa:=σ.aa++[.arr (ty P (ty P t).elem).size (bG n.toNat (z.map .lit))] }:St).put o.dst (.ref σ.aa.length (ty P (ty P t).elem).size 0 n.toNat))/\k'=k'
    | _,_,_,_=>False
  | .slice t x lo hi mx =>
    (ty P t).kind=1/\(ty P (ty P t).elem).kind≠99/\mx=none /\
    match ev σ x with
    | .ref id sz off len =>
      match σ.aa[id]? with
      | some (.arr dL rows) =>
        dL=sz/\sz=(ty P (ty P t).elem).size /\
        match lo.map (ev σ),hi.map (ev σ) with
        | none,none=>K (σ.put o.dst (.ref id sz off len))
        | some (.lit (.int _ l)),none=>(0<=l/\l<=len/\rows.length=rows.length)/\K (σ.put o.dst (.ref id sz (off+l.toNat) (len - l.toNat)))
        | none,some (.lit (.int _ h))=>(0<=h/\h<=len)/\K (σ.put o.dst (.ref id sz off h.toNat))
        | some (.lit (.int _ l)),some (.lit (.int _ h))=>(0<=l/\l<=h/\h<=len)/\K (σ.put o.dst (.ref id sz (off+l.toNat) (h.toNat - l.toNat)))
        | _,_=>False
      | _=>False
    | .tree sz rows =>
        (rows≠[]->sz=(ty P (ty P t).elem).size) /\
        match lo.map (ev σ),hi.map (ev σ) with
        | none,none=>K (σ.put o.dst (.tree sz rows))
        | some (.lit (.int _ l)),none=>(0<=l/\l<=rows.length)/\K (σ.put o.dst (.tree sz (rows.drop l.toNat)))
        | none,some (.lit (.int _ h))=>(0<=h/\h<=rows.length)/\K (σ.put o.dst (.tree sz (rows.take h.toNat)))
        | some (.lit (.int _ l)),some (.lit (.int _ h))=>(0<=l/\l<=h/\h<=rows.length)/\K (σ.put o.dst (.tree sz ((rows.take h.toNat).drop l.toNat)))
        | _,_=>False
    | _=>False
  | .fieldAddr s x f =>
    match (ty P s).kind,(ty P s).a5[f]? with
    | 3,some (off,_,size) =>
      0<size /\
      match ev σ x with
      | .ptr id r c =>
        match σ.aa[id]? with
        | some .gone=>False
        | some _=>K (σ.put o.dst (.ptr id r (c+off)))
        | none=>False
      | .bm cells=>K (σ.put o.dst (.bm (cells.drop off)))
      | _=>False
    | _,_=>False
  | .field s x f =>
    match (ty P s).kind,(ty P s).a5[f]? with
    | 3,some (off,t,size) =>
      (ty P t).kind≠99/\size=(ty P t).size /\
      match ev σ x with
      | .agg cs=>if (ty P t).isAgg then off+size<=cs.length/\K (σ.put o.dst (.agg ((cs.drop off).take size))) else
          match cs[off]? with
          | some v=>K (σ.put o.dst v)
          | none=>False
      | _=>False
    | _,_=>False
  | .indexAddr t x i =>
    match (ty P t).kind,ev σ x,ev σ i with
    | 1,.ref id sz off len,.lit (.int _ n) =>
      match σ.aa[id]? with
      | some (.arr dL _)=>(dL=sz/\sz=(ty P (ty P t).elem).size/\(ty P (ty P t).elem).kind≠99/\0<=n/\n<len)/\K (σ.put o.dst (.ptr id (off+n.toNat) 0))
      | _=>False
    | 1,.tree sz rows,.lit (.int _ n)=>(sz=(ty P (ty P t).elem).size/\(ty P (ty P t).elem).kind≠99/\0<=n/\n<rows.length)/\K (σ.put o.dst (.bm (rows.getD n.toNat [])))
    | 2,.ptr id r c,.lit (.int _ n) =>
      match σ.aa[id]? with
      | some .gone=>False
      | some _=>((ty P (ty P t).elem).kind≠99/\0<=n/\n<(ty P t).len)/\K (σ.put o.dst (.ptr id r (c+n.toNat * (ty P (ty P t).elem).size)))
      | none=>False
    | 2,.bm cells,.lit (.int _ n)=>((ty P (ty P t).elem).kind≠99/\0<=n/\n<(ty P t).len)/\K (σ.put o.dst (.bm (cells.drop (n.toNat * (ty P (ty P t).elem).size))))
    | _,_,_=>False
  | .makeMap t r=>(r=none/\(ty P t).kind=8)/\K (({ σ with aa:=σ.aa++[.mp (D2 P t) []] }:St).put o.dst (.g6 σ.aa.length))
  | .lookup t x i ok =>
    match keyOf (ev σ i),mU σ (ev σ x),zeroV P (ty P t).elem with
    | some (ag,l),some (_,jx,L),some z=>(mV P t ag/\jx=ag/\l.length=lg ag/\(ty P t).kind=8/\ok=false)/\K (σ.put o.dst ((pE l L).getD (.lit z)))
    | _,_,_=>False
  | .mapUpdate t m k x =>
    match keyOf (ev σ k),mU σ (ev σ m) with
    | some (ag,l),some (id,jx,L)=>(mV P t ag/\jx=ag/\l.length=lg ag)/\K (({ σ with aa:=σ.aa.set id (.mp ag (gX l (ev σ x) L)) }:St).put o.dst .undef)
    | _,_=>False
  | .mapEntry t m k =>
    match keyOf (ev σ k),mU σ (ev σ m),zeroV P (ty P t).elem with
    | some (ag,l),some (id,jx,L),some z=>(mV P t ag/\jx=ag/\l.length=lg ag/\(ty P t).kind=8) /\
      K (({ σ with aa:=σ.aa.set id (.mp ag (gX l ((pE l L).getD (.lit z)) L)) }:St).put o.dst (.bH [(pE l L).getD (.lit z),.lit (.int .i64 (B5 l L:Nat))]))
    | _,_,_=>False
  | .entryStore _ m s x =>
    match ev σ s,mU σ (ev σ m) with
    | .lit (.int .i64 n),some (id,ag,L)=>(0<=n/\n<L.length)/\K (({ σ with aa:=σ.aa.set id (.mp ag (rA n.toNat (ev σ x) L)) }:St).put o.dst .undef)
    | _,_=>False
  | .index t x i =>
    match ev σ x,ev σ i with
    | .lit (.string s),.lit (.int _ n)=>(P.underlying t=some .string/\0<=n/\n<s.size)/\K (σ.put o.dst (.lit (.int .u8 (KM s n.toNat))))
    | _,_=>False
  | .makeInterface t x=>Af P t=false/\K (σ.put o.dst (.ja t (ev σ x)))
  | .typeAssert x _ asserted ok =>
    match ev σ x with
    | .ja t v=>(Af P asserted=false/\t=asserted/\ok=false)/\K (σ.put o.dst v)
    | _=>False
  | .extract x i =>
    match ev σ x with
    | .bH vs =>
      match vs[i]? with
      | some v=>K (σ.put o.dst v)
      | none=>False
    | _=>False
  | .call { callee:=.builtin .len,args,argTypes } =>
    match args.toList,argTypes.toList with
    | [x],[t] =>
      match ev σ x with
      | .ref id sz _ len =>
        (ty P t).kind=1 /\
        match σ.aa[id]? with
        | some (.arr dL _)=>dL=sz/\K (σ.put o.dst (.lit (.int .i64 len)))
        | _=>False
      | .tree _ rows=>(ty P t).kind=1/\K (σ.put o.dst (.lit (.int .i64 rows.length)))
      | .lit (.slice none 0 0)=>(ty P t).kind=1/\K (σ.put o.dst (.lit (.int .i64 0)))
      | .g6 id =>
        (ty P t).kind=8 /\
        match σ.aa[id]? with
        | some (.mp _ L)=>K (σ.put o.dst (.lit (.int .i64 L.length)))
        | _=>False
      | _=>False
    | _,_=>False
  | .call { callee:=.builtin .append,args,argTypes } =>
    match args.toList,argTypes.toList with
    | [s,x],[t,t'] =>
      match (ty P t).kind,(ty P (ty P t).elem).zero,pF σ (ty P (ty P t).elem).size (ev σ s),oR σ (ev σ x) with
      | 1,some z,some (pre,σ1),some (sz,src) =>
        (t'=t/\(ty P (ty P t).elem).kind≠99/\sz=(ty P (ty P t).elem).size/\0<sz/\z.length=sz/\pre.length+src.length<=549755813888/\(ty P (ty P t).elem).bytes<=128/\(src.all λrow=>row.all cJ)=true) /\
          K (({ σ1 with aa:=σ1.aa++[.arr sz (pre++src)] }:St).put o.dst (.ref σ1.aa.length sz 0 (pre.length+src.length)))
      | _,_,_,_=>False
    | _,_=>False
  | .call { callee:=.builtin .min,args,argTypes:=_ } =>
    match args.toList with
    | [x,y] =>
      match ev σ x,ev σ y with
      | .lit (.int k a),.lit (.int k' b)=>k=k'/\K (σ.put o.dst (.lit (.int k (min a b))))
      | _,_=>False
    | _=>False
  | .call { callee:=.builtin .max,args,argTypes:=_ } =>
    match args.toList with
    | [x,y] =>
      match ev σ x,ev σ y with
      | .lit (.int k a),.lit (.int k' b)=>k=k'/\K (σ.put o.dst (.lit (.int k (max a b))))
      | _,_=>False
    | _=>False
  | .call { callee:=.builtin .copy,args,argTypes } =>
    match args.toList,argTypes.toList with
    | [s,x],[t,_] =>
      match ev σ s,oR σ (ev σ x) with
      | .ref id sz off len,some (dL,src) =>
        match σ.aa[id]? with
        | some (.arr lU rows) =>
          ((ty P t).kind=1/\(ty P (ty P t).elem).kind≠99/\dL=sz/\lU=sz/\sz=(ty P (ty P t).elem).size/\0<sz/\(src.all λrow=>row.all cJ)=true) /\
            K (({ σ with aa:=σ.aa.set id (.arr sz (rows.take off++src.take (min src.length len)++rows.drop (off+min src.length len))) }:St).put o.dst (.lit (.int .i64 (min src.length len:Nat))))
        | _=>False
      | _,_=>False
    | _,_=>False
  | .call { callee:=.builtin .clear,args,argTypes } =>
    match args.toList,argTypes.toList with
    | [s],[t] =>
      match ev σ s,(ty P (ty P t).elem).zero with
      | .ref id sz off len,some z =>
        match σ.aa[id]? with
        | some (.arr dL rows) =>
          ((ty P t).kind=1/\(ty P (ty P t).elem).kind≠99/\dL=sz/\z.length=sz/\0<sz/\(z.all λu=>u.oneCell')=true) /\
            K (({ σ with aa:=σ.aa.set id (.arr sz (rows.take off++bG len (z.map AV.lit)++rows.drop (off+len))) }:St).put o.dst (.lit (.tuple #[])))
        | _=>False
      | _,_=>False
    | _,_=>False
  | .convert s d x =>
    match P.underlying d,ev σ x with
    | some (.int k),.lit (.int _ n)=>(P.underlying s).isSome=true/\K (σ.put o.dst (.lit (.int k (k.wrap n))))
    | _,_=>False
  | _=>False
end Go.Am

