import Derived.Test.YtodilglobhifaaaGreatDoorX00
import Derived.Orders
import Derived.Laws.AppendOwn
import Derived.Laws.MakeOwn
import Derived.Laws.Slices
import Derived.Laws.Small
set_option linter.all false
set_option maxHeartbeats 0
set_option maxRecDepth 20000
open Nat renaming le_refl→aM,le_trans→kY,lt_of_lt_of_le→Dr,ne_of_lt→jL,lt_or_ge→dD
open List renaming getElem?_eq_some_iff→ba,getElem?_append_left→cr,getElem?_set→cj,replicate→ax
open Array renaming getD_eq_getD_getElem?→dC,getElem?_eq_some_iff→kU
namespace Go.Am
inductive AV where
 |undef
 |lit (v:Value)
 |tree (sz:Nat) (rows:List (List AV))
 |cm (cells:List AV)
 |ref (id sz off len:Nat)
 |ptr (id r c:Nat)
 |agg (cs:List AV)
 |bP (vs:List AV)
 |fn (f:FuncId) (bB:List AV)
 |fj (t:TypeId) (v:AV)
 |dx (id:Nat)
 deriving Inhabited
abbrev aah(n:Int):AV:=.lit (.int .i64 n)
inductive Ob where
 |gone
 |var (cells:List AV)
 |arr (sz:Nat) (rows:List (List AV))
 |mp (ag:Nat) (L:List (List Int×AV))
 deriving Inhabited
structure St where
 env:Nat->AV
 aa:List Ob
def eY(e:Nat->AV)(d:Nat)(v:AV):Nat->AV:=λk=>if k=d then v else e k
def cellAt(rows:List (List AV))(r c:Nat):Option AV:=(rows[r]?).bind (·[c]?)
def eN(gj:List (Value×Value)):Array MapEntry:=(gj.mapIdx λi p=>(⟨p.1,p.2,i⟩:MapEntry)).toArray
def kV(ag:Nat)(l:List Int):Value:=if ag=0 then .int .i64 (l.headD 0) else .agg (l.map λn=>.int .i64 n).toArray
def gA(ag:Nat):Nat:=if ag=0 then 1 else ag
def cw(ag:Nat)(f:Nat->Value)(L:List (List Int×AV)):List (Value×Value):=L.mapIdx λj p=>(kV ag p.1,f j)
def Ea(ag:Nat)(f:Nat->Value)(g:AV->AV)(L:List (List Int×AV)):cw ag f (L.map λp=>(p.1,g p.2))=cw ag f L:=by
 unfold cw;apply List.ext_getElem
 ·simp
 ·intros;simp
abbrev eW:=Nat->Option (Nat×Nat×Nat)
inductive eR(w:World)(Z:Nat->Prop):AV->Value->Prop where
 |lit (v:Value):eR w Z (.lit v) v
 |nil (sz cap:Nat) (a:Option Addr):eR w Z (.tree sz []) (.slice a 0 cap)
 |tree (sz:Nat) (rows:List (List AV)) (b o cap:Nat) (f:Nat->Nat->Value) (hz:Z b) (hr:∀ row∈rows,row.length=sz) (EE:rows.length<=cap)
   (hc:∀ r c x,cellAt rows r c=some x->w.cell? ⟨b,o+(r*sz+c),none⟩=some (f r c))
   (ht:∀ r c x,cellAt rows r c=some x->eR w Z x (f r c)):eR w Z (.tree sz rows) (.slice (some ⟨b,o,none⟩) rows.length cap)
inductive aq(os:List Ob)(w:World)(Z:Nat->Prop)(blk:eW):AV->Value->Prop where
 |undef (cv:Value):aq os w Z blk .undef cv
 |bO (v:AV) (cv:Value) (h:eR w Z v cv):aq os w Z blk v cv
 |cm (cells:List AV) (b o:Nat) (f:Nat->Value) (hz:Z b) (hc:∀ j x,cells[j]?=some x->w.cell? ⟨b,o+j,none⟩=some (f j))
   (ht:∀ j x,cells[j]?=some x->eR w Z x (f j)):aq os w Z blk (.cm cells) (.pointer (some ⟨b,o,none⟩))
 |iz (id sz off len:Nat) (cv:Value) (h:os[id]?=some .gone) (h1:cv.oneCell'=true):aq os w Z blk (.ref id sz off len) cv
 |ki (id r c:Nat) (cv:Value) (h:os[id]?=some .gone) (h1:cv.oneCell'=true):aq os w Z blk (.ptr id r c) cv
 |ref (id sz off len b o cap cap':Nat) (rows:List (List AV)) (h:os[id]?=some (.arr sz rows)) (hb:blk id=some (b,o,cap))
   (hl:off+len<=rows.length) (hc:off+cap'<=cap) (dt:len<=cap'):aq os w Z blk (.ref id sz off len) (.slice (some ⟨b,o+off*sz,none⟩) len cap')
 |ju (id sz:Nat) (h:os[id]?=some (.arr sz [])) (hb:blk id=none):aq os w Z blk (.ref id sz 0 0) (.slice none 0 0)
 |jV (id sz off b x:Nat) (bo:Nat×Nat) (rows:List (List AV)) (h:os[id]?=some (.arr sz rows)) (hb:blk id=some (b,bo)) (hl:off<=rows.length) :
   aq os w Z blk (.ref id sz off 0) (.slice (some ⟨b,x,none⟩) 0 0)
 |kG (id c b cap:Nat) (cells:List AV) (h:os[id]?=some (.var cells)) (hb:blk id=some (b,0,cap)):aq os w Z blk (.ptr id 0 c) (.pointer (some ⟨b,c,none⟩))
 |ld (id r c sz b o cap:Nat) (rows:List (List AV)) (h:os[id]?=some (.arr sz rows)) (hb:blk id=some (b,o,cap)) :
   aq os w Z blk (.ptr id r c) (.pointer (some ⟨b,o+(r*sz+c),none⟩))
 |agg (cs:List AV) (aI:Array Value) (hs:aI.size=cs.length) (h:∀ j x,cs[j]?=some x->aq os w Z blk x (aI.getD j Go.undef)):aq os w Z blk (.agg cs) (.agg aI)
 |bP (cs:List AV) (aI:Array Value) (hs:aI.size=cs.length) (h:∀ j x,cs[j]?=some x->aq os w Z blk x (aI.getD j Go.undef)):aq os w Z blk (.bP cs) (.tuple aI)
 |fn (f:FuncId) (cs:List AV) (aI:Array Value) (hs:aI.size=cs.length) (h:∀ j x,cs[j]?=some x->aq os w Z blk x (aI.getD j Go.undef)) :
   aq os w Z blk (.fn f cs) (.func (.func f) #[] aI)
 |fj (t:TypeId) (v:AV) (cv:Value) (h:aq os w Z blk v cv):aq os w Z blk (.fj t v) (.iface t cv)
 |dx (id b:Nat) (ag:Nat) (L:List (List Int×AV)) (h:os[id]?=some (.mp ag L)) (hb:blk id=some (b,0,0)):aq os w Z blk (.dx id) (.map (some b))
 |ng (id:Nat) (cv:Value) (h:os[id]?=some .gone) (h1:cv.oneCell'=true):aq os w Z blk (.dx id) cv
def u3 (os:List Ob) (w:World) (Z:Nat->Prop) (blk:eW) (i:Nat):Ob->Prop
  | .gone=>True
  | .var cells=>∃ b cap cur t,blk i=some (b,0,cap)/\w.heap[b]?=some (.cells cur t (0,0))/\cur.size=cells.length /\
      ∀ c v,cells[c]?=some v->aq os w Z blk v (cur.getD c Go.undef)
  | .arr sz rows=>0<sz/\(∀ row∈rows,row.length=sz) /\
      ((blk i=none/\rows=[])\/∃ b o cap cur t,blk i=some (b,o,cap)/\w.heap[b]?=some (.cells cur t (0,0))/\o+cap * sz<=cur.size/\rows.length<=cap/\cap<=maxLen /\
        ∀ r c v,cellAt rows r c=some v->aq os w Z blk v (cur.getD (o+(r * sz+c)) Go.undef))
  | .mp ag L=>∃ b,∃ f:Nat->Value,blk i=some (b,0,0)/\w.heap[b]?=some (.map (eN (cw ag f L)) L.length)/\(∀ p∈L,p.1.length=gA ag)/\∀ (j:Nat) p,L[j]?=some p->aq os w Z blk p.2 (f j)
def qY(g:Nat):AV :=
 match x6.lookup g with
 |some cs=>.cm (cs.map .lit)
 |none=>.undef
structure Cx where
 w:World
 tmps:Array Value
 Z:Nat->Prop
 blk:eW
def Live(os:List Ob)(i:Nat):Prop:=∃ o,os[i]?=some o/\o≠.gone
def lT(os:List Ob)(blk:eW)(b:Nat):Prop:=∃ i o cap,Live os i/\blk i=some (b,o,cap)
structure aZ(σ:St)(γ:Cx):Prop where
 au:∀ k,aq σ.aa γ.w γ.Z γ.blk (σ.env k) (γ.tmps.getD k Go.undef)
 dL:∀ (i:Nat) o,σ.aa[i]?=some o->u3 σ.aa γ.w γ.Z γ.blk i o
 inj:∀ i j b o c o' c',Live σ.aa i->Live σ.aa j->γ.blk i=some (b,o,c)->γ.blk j=some (b,o',c')->i=j
 nz:∀ b,lT σ.aa γ.blk b->¬ γ.Z b
 fG:∀ b,γ.Z b->b<γ.w.heap.size
 gl:∀ g,aq σ.aa γ.w γ.Z γ.blk (qY g) (.pointer (some ⟨g,0,none⟩))
def Ob.db:Ob->Ob->Prop
 |.var a,.var b=>a.length=b.length
 |.arr s a,.arr s' b=>s=s'/\a.length=b.length
 |.mp a _,.mp b _=>a=b
 |_,_=>False
def Ob.gV{o:Ob}(h:o≠.gone):o.db o:=by
 cases o<;>simp_all [Ob.db]
def Ob.Jl{a b c:Ob}(h:a.db b)(k:b.db c):a.db c:=by
 cases a<;>cases b<;>cases c<;>simp_all [Ob.db]
def Ob.Uy{a b:Ob}(h:a.db b):a≠.gone/\b≠.gone:=by
 cases a<;>cases b<;>simp_all [Ob.db]
structure Fr(wE:List Ob)(mJ:Cx)(os:List Ob)(γ:Cx):Prop where
 jT:γ.w.os=mJ.w.os
 tape:γ.w.tape=mJ.w.tape
 output:γ.w.output=mJ.w.output
 size:mJ.w.heap.size<=γ.w.heap.size
 cO:∀ b,b<mJ.w.heap.size->¬ lT wE mJ.blk b->γ.w.heap[b]?=mJ.w.heap[b]?
 z0:∀ b,mJ.Z b->γ.Z b
 z1:∀ b,γ.Z b->mJ.Z b\/lT wE mJ.blk b\/mJ.w.heap.size<=b
 own:∀ b,lT os γ.blk b->lT wE mJ.blk b\/mJ.w.heap.size<=b
 len:wE.length<=os.length
 iH:∀ i,i<wE.length->Live os i->γ.blk i=mJ.blk i/\∃ o o',wE[i]?=some o/\os[i]?=some o'/\o.db o'
def Fr.refl(os:List Ob)(γ:Cx):Fr os γ os γ :=
 ⟨rfl,rfl,rfl,aM _,λ_ _ _=>rfl,λ_ h=>h,λ_ h=>.inl h,λ_ h=>.inl h,aM _,λ_ _ ⟨o,ho,hg⟩=>⟨rfl,o,o,ho,ho,Ob.gV hg⟩⟩
def Fr.trans{a b c:List Ob}{x y z:Cx}(h:Fr a x b y)(k:Fr b y c z):Fr a x c z where
 jT:=k.jT.trans h.jT
 tape:=k.tape.trans h.tape
 output:=k.output.trans h.output
 size:=kY h.size k.size
 cO:=λn hn ho=>(k.cO n (Dr hn h.size) (λhw=>(h.own n hw).elim ho (λhl=>Ay))).trans (h.cO n hn ho)
 z0:=λn hn=>k.z0 n (h.z0 n hn)
 z1:=λn hn=>by
  rcases k.z1 n hn with h1|h1|h1
  ·exact h.z1 n h1
  ·rcases h.own n h1 with h2|h2
   ·exact .inr (.inl h2)
   ·exact .inr (.inr h2)
  ·exact .inr (.inr (kY h.size h1))
 own:=λn hn=>by
  rcases k.own n hn with h1|h1
  ·exact h.own n h1
  ·exact .inr (kY h.size h1)
 len:=kY h.len k.len
 iH:=λi hi hl=>by
  obtain⟨h1,o,o',ho,cz,hk⟩:=k.iH i (Dr hi h.len) hl;obtain⟨h3,x,x',hx,cd,aQ⟩:=h.iH i hi ⟨o,ho,(Ob.Uy hk).1⟩;rw[ho]at cd;simp at cd;subst cd;exact⟨h1.trans h3,x,o',hx,cz,Ob.Jl aQ hk⟩
def EN{w w':World}{b o:Nat}(h:w'.heap[b]?=w.heap[b]?):w'.cell? ⟨b,o,none⟩=w.cell? ⟨b,o,none⟩:=by
 simp[World.cell?,h]
def eR.mono{w w':World}{Z Z':Nat->Prop}{v:AV}{cv:Value}(h:eR w Z v cv)(hz:∀ b,Z b->Z' b/\w'.heap[b]?=w.heap[b]?):eR w' Z' v cv:=by
 induction h with
 |lit v=>exact .lit v
 |nil sz cap a=>exact .nil sz cap a
 |tree sz rows b o cap f oc hr EE hc _ ih =>
  exact .tree sz rows b o cap f (hz b oc).1 hr EE (λr c x hx=>by rw[EN (hz b oc).2];exact hc r c x hx) ih
def aq.mono{os os':List Ob}{w w':World}{Z Z':Nat->Prop}{blk gW:eW}{v:AV}{cv:Value}(h:aq os w Z blk v cv)(hz:∀ b,Z b->Z' b/\w'.heap[b]?=w.heap[b]?)(ho:∀ i o,os[i]?=some o->os'[i]?=some .gone\/(gW i=blk i/\∃ o',os'[i]?=some o'/\o.db o')):aq os' w' Z' gW v cv:=by
 induction h with
 |undef cv=>exact .undef cv
 |bO v cv h=>exact .bO v cv (h.mono hz)
 |cm cells b o f oc hc ht =>
  exact .cm cells b o f (hz b oc).1 (λj x hx=>by rw[EN (hz b oc).2];exact hc j x hx) (λj x hx=>(ht j x hx).mono hz)
 |iz id sz off len cv h h1 =>
  rcases ho id _ h with h'|⟨_,o',_,hl⟩
  ·exact .iz id sz off len cv h' h1
  ·exact absurd hl (by simp[Ob.db])
 |ki id r c cv h h1 =>
  rcases ho id _ h with h'|⟨_,o',_,hl⟩
  ·exact .ki id r c cv h' h1
  ·exact absurd hl (by simp[Ob.db])
 |ref id sz off len b o cap cap' rows h hb hl hc dt =>
  rcases ho id _ h with h'|⟨eD,o',cz,hk⟩
  ·exact .iz _ _ _ _ _ h' rfl
  ·cases o'<;>simp[Ob.db]at hk;obtain⟨rfl,hk⟩:=hk;exact .ref id sz off len b o cap cap' _ cz (eD.trans hb) Ay hc dt
 |ju id sz h hb =>
  rcases ho id _ h with h'|⟨eD,o',cz,hk⟩
  ·exact .iz _ _ _ _ _ h' rfl
  ·cases o'<;>simp[Ob.db]at hk;obtain⟨rfl,hk⟩:=hk;have aQ:=List.eq_nil_of_length_eq_zero hk.symm;subst aQ;exact .ju id sz cz (eD.trans hb)
 |jV id sz off b x bo rows h hb hl =>
  rcases ho id _ h with h'|⟨eD,o',cz,hk⟩
  ·exact .iz _ _ _ _ _ h' rfl
  ·cases o'<;>simp[Ob.db]at hk;obtain⟨rfl,hk⟩:=hk;exact .jV id sz off b x bo _ cz (eD.trans hb) Ay
 |kG id c b cap cells h hb =>
  rcases ho id _ h with h'|⟨eD,o',cz,hk⟩
  ·exact .ki _ _ _ _ h' rfl
  ·cases o'<;>simp[Ob.db]at hk;exact .kG id c b cap _ cz (eD.trans hb)
 |ld id r c sz b o cap rows h hb =>
  rcases ho id _ h with h'|⟨eD,o',cz,hk⟩
  ·exact .ki _ _ _ _ h' rfl
  ·cases o'<;>simp[Ob.db]at hk;obtain⟨rfl,hk⟩:=hk;exact .ld id r c sz b o cap _ cz (eD.trans hb)
 |agg cs aI hs _ ih=>exact .agg cs aI hs ih
 |bP cs aI hs _ ih=>exact .bP cs aI hs ih
 |fn f cs aI hs _ ih=>exact .fn f cs aI hs ih
 |fj t v cv _ ih=>exact .fj t v cv ih
 |dx id b ag L h hb =>
  rcases ho id _ h with h'|⟨eD,o',cz,hk⟩
  ·exact .ng _ _ h' rfl
  ·cases o'<;>simp[Ob.db]at hk;subst hk;exact .dx id b _ _ cz (eD.trans hb)
 |ng id cv h h1 =>
  rcases ho id _ h with h'|⟨_,o',cz,hk⟩
  ·exact .ng _ _ h' h1
  ·cases o'<;>simp[Ob.db]at hk
def uG{os os':List Ob}{w w':World}{Z Z':Nat->Prop}{blk gW:eW}{g:Nat}{cv:Value}(h:aq os w Z blk (qY g) cv)(hz:∀ b,Z b->Z' b/\w'.heap[b]?=w.heap[b]?):aq os' w' Z' gW (qY g) cv:=by
 unfold qY at h ⊢;generalize x6.lookup g=l at h ⊢;cases l with
 |none=>exact .undef _
 |some cs =>
  dsimp only at h ⊢;cases h with
  |bO _ _ h=>cases h
  |cm cells b o f oc hc ht=>exact .cm _ b o f (hz b oc).1 (λj x hx=>by rw[EN (hz b oc).2];exact hc j x hx) (λj x hx=>(ht j x hx).mono hz)
def Live.lt{os:List Ob}{i:Nat}(h:Live os i):i<os.length:=by
 obtain⟨o,ho,_⟩:=h;exact(ba.1 ho).1
def aq.same{os:List Ob}{w w':World}{Z:Nat->Prop}{blk:eW}{v:AV}{cv:Value}(h:aq os w Z blk v cv)(hw:w'.heap=w.heap):aq os w' Z blk v cv :=
 h.mono (λb hb=>⟨hb,by rw[hw]⟩) (λi o ho=>by
  by_cases hg:o=.gone
  ·subst hg;exact .inl ho
  ·exact .inr ⟨rfl,o,ho,Ob.gV hg⟩)
def u3.mono{os os':List Ob}{w w':World}{Z Z':Nat->Prop}{blk gW:eW}{i:Nat}{o:Ob}(h:u3 os w Z blk i o)(hR:∀ v cv,aq os w Z blk v cv->aq os' w' Z' gW v cv)(hb:gW i=blk i)(hk:∀ b o c,blk i=some (b,o,c)->w'.heap[b]?=w.heap[b]?):u3 os' w' Z' gW i o:=by
 cases o with
 |gone=>trivial
 |var cells =>
  obtain⟨b,cap,cur,t,h1,h2,h3,h4⟩:=h;exact⟨b,cap,cur,t,hb.trans h1,(hk _ _ _ h1).trans h2,h3,λc v hv=>hR _ _ (h4 c v hv)⟩
 |arr sz rows =>
  obtain⟨h0,hr,h⟩:=h;refine⟨h0,hr,?_⟩;rcases h with⟨h1,h2⟩|⟨b,o,cap,cur,t,h1,h2,h3,h4,h5,h6⟩
  ·exact .inl ⟨hb.trans h1,h2⟩
  ·exact .inr ⟨b,o,cap,cur,t,hb.trans h1,(hk _ _ _ h1).trans h2,h3,h4,h5,λr c v hv=>hR _ _ (h6 r c v hv)⟩
 |mp ag L =>
  obtain⟨b,f,h1,h2,h3,h4⟩:=h;exact⟨b,f,hb.trans h1,(hk _ _ _ h1).trans h2,h3,λj p hp=>hR _ _ (h4 j p hp)⟩
def aZ.put{σ:St}{γ:Cx}(h:aZ σ γ)(d:Nat)(hd:d<γ.tmps.size){v:AV}{cv:Value}(hv:aq σ.aa γ.w γ.Z γ.blk v cv):
  aZ { σ with env:=eY σ.env d v } { γ with tmps:=γ.tmps.setIfInBounds d cv } where
 au:=λk=>by
  simp only[eY];by_cases hk:k=d
  ·subst hk;simp[dC,hd];exact hv
  ·simp only[hk,if_false,dC,Array.getElem?_setIfInBounds_ne (Ne.symm hk)];have:=h.au k;simpa [dC] using this
 dL:=h.dL
 inj:=h.inj
 nz:=h.nz
 fG:=h.fG
 gl:=h.gl
def aZ.Eg{σ:St}{γ:Cx}(h:aZ σ γ){w':World}(hw:w'.heap=γ.w.heap):aZ σ { γ with w:=w' } where
 au:=λk=>(h.au k).same hw
 dL:=λi o ho=>(h.dL i o ho).mono (λv cv hv=>hv.same hw) rfl (λb _ _ _=>by rw[hw])
 inj:=h.inj
 nz:=h.nz
 fG:=λb hb=>by have:=h.fG b hb;simpa [hw] using this
 gl:=λg=>(h.gl g).same hw
def Fr.Eg{a b:List Ob}{x y:Cx}(h:Fr a x b y){w':World}(hw:w'.heap=y.w.heap)(h1:w'.os=y.w.os)(h2:w'.tape=y.w.tape)(h3:w'.output=y.w.output):
  Fr a x b { y with w:=w' } :=
 h.trans ⟨h1,h2,h3,by simp[hw],λ_ _ _=>by simp[hw],λ_ h=>h,λ_ h=>.inl h,λ_ h=>.inl h,aM _,λ_ _ ⟨o,ho,hg⟩=>⟨rfl,o,o,ho,ho,Ob.gV hg⟩⟩
def Fr.put{a b:List Ob}{x y:Cx}(h:Fr a x b y)(t:Array Value):Fr a x b { y with tmps:=t }:=⟨h.jT,h.tape,h.output,h.size,h.cO,h.z0,h.z1,h.own,h.len,h.iH⟩
def bZ(blk:eW)(n:Nat)(x:Option (Nat×Nat×Nat)):eW:=λi=>if i=n then x else blk i
def pg(os:List Ob)(w:World)(Z:Nat->Prop)(blk:eW)(o cap:Nat)(cur:Array Value):Ob->Prop
 |.gone=>True
 |.var cells=>o=0/\cur.size=cells.length/\∀ c v,cells[c]?=some v->aq os w Z blk v (cur.getD c Go.undef)
 |.arr sz rows=>0<sz/\(∀ row∈rows,row.length=sz)/\o+cap*sz<=cur.size/\rows.length<=cap/\cap<=maxLen /\
    ∀ r c v,cellAt rows r c=some v->aq os w Z blk v (cur.getD (o+(r*sz+c)) Go.undef)
 |.mp _ _=>False
def pg.ED{os os':List Ob}{w w':World}{Z Z':Nat->Prop}{blk gW:eW}{i b o cap:Nat}{cur:Array Value}{t:TypeId}{ob:Ob}(h:pg os w Z blk o cap cur ob)(hR:∀ v cv,aq os w Z blk v cv->aq os' w' Z' gW v cv)(hb:gW i=some (b,o,cap))(hk:w'.heap[b]?=some (.cells cur t (0,0))):u3 os' w' Z' gW i ob:=by
 cases ob with
 |gone=>trivial
 |var cells =>
  obtain⟨h0,h1,h2⟩:=h;subst h0;exact⟨b,cap,cur,t,hb,hk,h1,λc v hv=>hR _ _ (h2 c v hv)⟩
 |arr sz rows =>
  obtain⟨h0,h1,h2,h3,h4,h5⟩:=h;exact⟨h0,h1,.inr ⟨b,o,cap,cur,t,hb,hk,h2,h3,h4,λr c v hv=>hR _ _ (h5 r c v hv)⟩⟩
 |mp ag L=>exact h.elim
def aZ.yD{σ:St}{γ:Cx}(h:aZ σ γ){w':World}{x:Obj}{cap:Nat}{ob:Ob}(hw:w'.heap=γ.w.heap.push x)(bb:∀ os' w' gW,(∀ v cv,aq σ.aa γ.w γ.Z γ.blk v cv->aq os' w' γ.Z gW v cv)->gW σ.aa.length=some (γ.w.heap.size,0,cap)->w'.heap[γ.w.heap.size]?=some x->u3 os' w' γ.Z gW σ.aa.length ob):
  aZ { σ with aa:=σ.aa++[ob] } { γ with w:=w',blk:=bZ γ.blk σ.aa.length (some (γ.w.heap.size,0,cap)) }:=by
 have bw:∀ b,b<γ.w.heap.size->w'.heap[b]?=γ.w.heap[b]?:=λb hb=>by
  rw[hw,Array.getElem?_push,if_neg Ay]
 have hR:∀ v cv,aq σ.aa γ.w γ.Z γ.blk v cv->aq (σ.aa++[ob]) w' γ.Z (bZ γ.blk σ.aa.length (some (γ.w.heap.size,0,cap))) v cv:=λv cv hv =>
  hv.mono (λb hb=>⟨hb,bw b (h.fG b hb)⟩) (λi o ho=>by
   have hi:i<σ.aa.length:=(ba.1 ho).1;have cz:(σ.aa++[ob])[i]?=some o:=by rw[cr hi];exact ho
   by_cases bX:o=.gone
   ·subst bX;exact .inl cz
   ·exact .inr ⟨by simp[bZ,jL hi],o,cz,Ob.gV bX⟩)
 have bx:∀ i,Live (σ.aa++[ob]) i->i=σ.aa.length\/Live σ.aa i:=by
  rintro i⟨o,ho,bX⟩;rcases dD i σ.aa.length with hi|hi
  ·rw[cr hi]at ho;exact .inr ⟨o,ho,bX⟩
  ·left;have:=(ba.1 ho).1;simp at this;omega
 have qn:∀ i b o c,Live σ.aa i->γ.blk i=some (b,o,c)->b<γ.w.heap.size:=by
  rintro i b o c⟨x,hx,dY⟩hb;have:=h.dL i x hx;cases x with
  |gone=>exact absurd rfl dY
  |var cells =>
   obtain⟨b',cap',lX,t',h1,h2,_⟩:=this;rw[hb]at h1;simp at h1;obtain⟨rfl,_⟩:=h1;exact(kU.1 h2).1
  |arr sz rows =>
   obtain⟨_,_,⟨h1,_⟩|⟨b',o',cap',lX,t',h1,h2,_⟩⟩:=this
   ·rw[hb]at h1;simp at h1
   ·rw[hb]at h1;simp at h1;obtain⟨rfl,_⟩:=h1;exact(kU.1 h2).1
  |mp ag L =>
   obtain⟨b',f',h1,h2,_⟩:=this;rw[hb]at h1;simp at h1;obtain⟨rfl,_⟩:=h1;exact(kU.1 h2).1
 refine⟨λk=>hR _ _ (h.au k),?_,?_,?_,?_,λg=>hR _ _ (h.gl g)⟩
 ·intro i o ho;rcases dD i σ.aa.length with hi|hi
  ·have cz:σ.aa[i]?=some o:=by rw[cr hi]at ho;exact ho
   by_cases bX:o=.gone
   ·subst bX;trivial
   ·refine(h.dL i o cz).mono hR (by simp[bZ,jL hi]) (λb x c hb=>bw b (qn i b x c ⟨o,cz,bX⟩ hb))
  ·have hi':i=σ.aa.length:=by
    have:=(ba.1 ho).1;simp at this;omega
   subst hi';simp at ho;subst ho;exact bb _ _ _ hR (by simp[bZ]) (by rw[hw];simp)
 ·intro i j b o c o' c' hi hj e9 fe;simp only[bZ]at e9 fe;rcases bx i hi with rfl|hi'<;>rcases bx j hj with rfl|fW
  ·rfl
  ·rw[if_pos rfl]at e9;rw[if_neg (jL fW.lt)]at fe;have:=qn _ _ _ _ fW fe;simp at e9;omega
  ·rw[if_pos rfl]at fe;rw[if_neg (jL hi'.lt)]at e9;have:=qn _ _ _ _ hi' e9;simp at fe;omega
  ·rw[if_neg (jL fW.lt)]at fe;rw[if_neg (jL hi'.lt)]at e9;exact h.inj i j b o c o' c' hi' fW e9 fe
 ·rintro b ⟨i,o,c,hi,hb⟩ hz;simp only[bZ]at hb;rcases bx i hi with rfl|hi'
  ·rw[if_pos rfl]at hb;simp at hb;have:=h.fG b hz;omega
  ·rw[if_neg (jL hi'.lt)]at hb;exact h.nz b ⟨i,o,c,hi',hb⟩ hz
 ·intro b hb;have:=h.fG b hb;rw[hw];simp;omega
def aZ.push{σ:St}{γ:Cx}(h:aZ σ γ){w':World}{cur:Array Value}{t:TypeId}{cap:Nat}{ob:Ob}(hw:w'.heap=γ.w.heap.push (.cells cur t (0,0)))(bb:pg σ.aa γ.w γ.Z γ.blk 0 cap cur ob):
  aZ { σ with aa:=σ.aa++[ob] } { γ with w:=w',blk:=bZ γ.blk σ.aa.length (some (γ.w.heap.size,0,cap)) } :=
 h.yD hw λ_ _ _ hR hb hk=>bb.ED hR hb hk
def aZ.blt{σ:St}{γ:Cx}(h:aZ σ γ){i b o c:Nat}(hl:Live σ.aa i)(hb:γ.blk i=some (b,o,c)):b<γ.w.heap.size:=by
 obtain⟨x,hx,dY⟩:=hl;have:=h.dL i x hx;cases x with
 |gone=>exact absurd rfl dY
 |var cells =>
  obtain⟨b',cap',lX,t',h1,h2,_⟩:=this;rw[hb]at h1;simp at h1;obtain⟨rfl,_⟩:=h1;exact(kU.1 h2).1
 |arr sz rows =>
  obtain⟨_,_,⟨h1,_⟩|⟨b',o',cap',lX,t',h1,h2,_⟩⟩:=this
  ·rw[hb]at h1;simp at h1
  ·rw[hb]at h1;simp at h1;obtain⟨rfl,_⟩:=h1;exact(kU.1 h2).1
 |mp ag L =>
  obtain⟨b',f',h1,h2,_⟩:=this;rw[hb]at h1;simp at h1;obtain⟨rfl,_⟩:=h1;exact(kU.1 h2).1
def Fr.yD{σ:St}{γ:Cx}{w':World}{x0:Obj}{cap:Nat}(ob:Ob)(hw:w'.heap=γ.w.heap.push x0)(h1:w'.os=γ.w.os)(h2:w'.tape=γ.w.tape)(h3:w'.output=γ.w.output):
  Fr σ.aa γ (σ.aa++[ob]) { γ with w:=w',blk:=bZ γ.blk σ.aa.length (some (γ.w.heap.size,0,cap)) } where
 jT:=h1
 tape:=h2
 output:=h3
 size:=by rw[hw];simp
 cO:=λb hb _=>by simp only[hw,Array.getElem?_push];rw[if_neg Ay]
 z0:=λ_ h=>h
 z1:=λ_ h=>.inl h
 own:=by
  rintro b⟨i,o,c,⟨x,hx,dY⟩,hb⟩;simp only[bZ]at hb;split at hb
  ·simp at hb;right;omega
  ·rename_i bI;have hi:i<σ.aa.length:=by have:=(ba.1 hx).1;simp at this;omega
   rw[cr hi]at hx;exact .inl ⟨i,o,c,⟨x,hx,dY⟩,hb⟩
 len:=Dg
 iH:=by
  rintro i hi⟨x,hx,dY⟩;have hx0:=hx;rw[cr hi]at hx;exact⟨by simp[bZ,jL hi],x,x,hx,hx0,Ob.gV dY⟩
def Fr.push{σ:St}{γ:Cx}{w':World}{cur:Array Value}{t:TypeId}{cap:Nat}(ob:Ob)(hw:w'.heap=γ.w.heap.push (.cells cur t (0,0)))(h1:w'.os=γ.w.os)(h2:w'.tape=γ.w.tape)(h3:w'.output=γ.w.output):
  Fr σ.aa γ (σ.aa++[ob]) { γ with w:=w',blk:=bZ γ.blk σ.aa.length (some (γ.w.heap.size,0,cap)) }:=Fr.yD ob hw h1 h2 h3
def aZ.kill{σ:St}{γ:Cx}(h:aZ σ γ)(id:Nat):aZ { σ with aa:=σ.aa.set id .gone } γ:=by
 have hR:∀ v cv,aq σ.aa γ.w γ.Z γ.blk v cv->aq (σ.aa.set id .gone) γ.w γ.Z γ.blk v cv:=λv cv hv =>
  hv.mono (λb hb=>⟨hb,rfl⟩) (λi o ho=>by
   have hi:i<σ.aa.length:=(ba.1 ho).1;rw[cj];by_cases kl:id=i
   ·left;simp[kl,hi]
   ·rw[if_neg kl];by_cases bX:o=.gone
    ·subst bX;exact .inl ho
    ·exact .inr ⟨rfl,o,ho,Ob.gV bX⟩)
 have bx:∀ i,Live (σ.aa.set id .gone) i->Live σ.aa i:=by
  rintro i⟨o,ho,bX⟩;rw[cj]at ho;split at ho
  ·split at ho<;>simp at ho;exact absurd ho.symm bX
  ·exact⟨o,ho,bX⟩
 refine⟨λk=>hR _ _ (h.au k),?_,λi j b o c o' c' hi hj=>h.inj i j b o c o' c' (bx i hi) (bx j hj),?_,h.fG,λg=>hR _ _ (h.gl g)⟩
 ·intro i o ho;rw[cj]at ho;split at ho
  ·split at ho<;>simp at ho;subst ho;trivial
  ·exact(h.dL i o ho).mono hR rfl (λ_ _ _ _=>rfl)
 ·rintro b ⟨i,o,c,hi,hb⟩;exact h.nz b ⟨i,o,c,bx i hi,hb⟩
def Fr.kill(os:List Ob)(γ:Cx)(id:Nat):Fr os γ (os.set id .gone) γ where
 jT:=rfl
 tape:=rfl
 output:=rfl
 size:=aM _
 cO:=λ_ _ _=>rfl
 z0:=λ_ h=>h
 z1:=λ_ h=>.inl h
 own:=by
  rintro b⟨i,o,c,⟨x,hx,dY⟩,hb⟩;rw[cj]at hx;split at hx
  ·split at hx<;>simp at hx;exact absurd hx.symm dY
  ·exact .inl ⟨i,o,c,⟨x,hx,dY⟩,hb⟩
 len:=Dg
 iH:=by
  rintro i hi⟨x,hx,dY⟩;have hx0:=hx;rw[cj]at hx;split at hx
  ·split at hx<;>simp at hx;exact absurd hx.symm dY
  ·exact⟨rfl,x,x,hx,hx0,Ob.gV dY⟩
def aZ.By{σ:St}{γ:Cx}(h:aZ σ γ){id:Nat}{ob ob':Ob}(ho:σ.aa[id]?=some ob)(hg:ob≠.gone)(pc:ob.db ob'){b o cap:Nat}(hb:γ.blk id=some (b,o,cap)){w':World}(lh:∀ k,k≠b->w'.heap[k]?=γ.w.heap[k]?)(aE:w'.heap.size=γ.w.heap.size)(bb:∀ os',(∀ v cv,aq σ.aa γ.w γ.Z γ.blk v cv->aq os' w' γ.Z γ.blk v cv)->u3 os' w' γ.Z γ.blk id ob'):aZ { σ with aa:=σ.aa.set id ob' } { γ with w:=w' }:=by
 have cp:id<σ.aa.length:=(ba.1 ho).1;have jY:Live σ.aa id:=⟨ob,ho,hg⟩;have bp:ob'≠.gone:=by intro e;subst e;cases ob<;>simp[Ob.db]at pc
 have hR:∀ v cv,aq σ.aa γ.w γ.Z γ.blk v cv->aq (σ.aa.set id ob') w' γ.Z γ.blk v cv:=λv cv hv =>
  hv.mono (λz hz=>⟨hz,lh z (λe=>h.nz b ⟨id,o,cap,jY,hb⟩ (e▸hz))⟩) (λi x hx=>by
   rw[cj];by_cases kl:id=i
   ·subst kl;rw[ho]at hx;simp at hx;subst hx;right;refine⟨rfl,ob',by simp[cp],pc⟩
   ·rw[if_neg kl];by_cases bX:x=.gone
    ·subst bX;exact .inl hx
    ·exact .inr ⟨rfl,x,hx,Ob.gV bX⟩)
 have bx:∀ i,Live (σ.aa.set id ob') i->Live σ.aa i:=by
  rintro i⟨x,hx,dY⟩;rw[cj]at hx;split at hx
  ·rename_i e;subst e;exact jY
  ·exact⟨x,hx,dY⟩
 refine⟨λk=>hR _ _ (h.au k),?_,λi j b o c o' c' hi hj=>h.inj i j b o c o' c' (bx i hi) (bx j hj),?_,λz hz=>by rw[aE];exact h.fG z hz,λg=>hR _ _ (h.gl g)⟩
 ·intro i x hx;rw[cj]at hx;by_cases kl:id=i
  ·subst kl;rw[if_pos rfl,if_pos cp]at hx;simp at hx;subst hx;exact bb _ hR
  ·rw[if_neg kl]at hx;by_cases bX:x=.gone
   ·subst bX;trivial
   ·refine(h.dL i x hx).mono hR rfl (λz y c hz=>lh z (λe=>kl ?_));subst e;exact h.inj id i z o cap y c jY ⟨x,hx,bX⟩ hb hz
 ·rintro z ⟨i,y,c,hi,hz⟩;exact h.nz z ⟨i,y,c,bx i hi,hz⟩
def aZ.write{σ:St}{γ:Cx}(h:aZ σ γ){id:Nat}{ob ob':Ob}(ho:σ.aa[id]?=some ob)(hg:ob≠.gone)(pc:ob.db ob'){b o cap:Nat}(hb:γ.blk id=some (b,o,cap)){w':World}{cur:Array Value}{t:TypeId}(hw:w'.heap[b]?=some (.cells cur t (0,0)))(lh:∀ k,k≠b->w'.heap[k]?=γ.w.heap[k]?)(aE:w'.heap.size=γ.w.heap.size)(bb:pg σ.aa γ.w γ.Z γ.blk o cap cur ob'):aZ { σ with aa:=σ.aa.set id ob' } { γ with w:=w' } :=
 h.By ho hg pc hb lh aE λ_ hR=>bb.ED hR hb hw
def Fr.write{σ:St}{γ:Cx}{id:Nat}{ob:Ob}(ob':Ob)(ho:σ.aa[id]?=some ob)(hg:ob≠.gone)(pc:ob.db ob'){b o cap:Nat}(hb:γ.blk id=some (b,o,cap)){w':World}(lh:∀ k,k≠b->w'.heap[k]?=γ.w.heap[k]?)(aE:w'.heap.size=γ.w.heap.size)(h1:w'.os=γ.w.os)(h2:w'.tape=γ.w.tape)(h3:w'.output=γ.w.output):
  Fr σ.aa γ (σ.aa.set id ob') { γ with w:=w' } where
 jT:=h1
 tape:=h2
 output:=h3
 size:=by simp[aE]
 cO:=λz _ jX=>lh z (λe=>jX ⟨id,o,cap,⟨ob,ho,hg⟩,e▸hb⟩)
 z0:=λ_ h=>h
 z1:=λ_ h=>.inl h
 own:=by
  rintro z⟨i,y,c,⟨x,hx,dY⟩,hz⟩;rw[cj]at hx;split at hx
  ·rename_i e;subst e;exact .inl ⟨id,y,c,⟨ob,ho,hg⟩,hz⟩
  ·exact .inl ⟨i,y,c,⟨x,hx,dY⟩,hz⟩
 len:=Dg
 iH:=by
  rintro i hi⟨x,hx,dY⟩;have hx0:=hx;rw[cj]at hx;split at hx
  ·rename_i e;subst e;exact⟨rfl,ob,ob',ho,by rw[cj];simp[hi],pc⟩
  ·exact⟨rfl,x,x,hx,hx0,Ob.gV dY⟩
end Go.Am
namespace Go.Am
structure Ty where
 kind:Nat
 size:Nat
 bytes:Nat
 elem:Nat
 len:Nat
 zero:Option (List Value)
 aF:List (Nat×Nat×Nat)
def rv(P:Program)(t:TypeId):Nat:=match P.info? t with|some i=>i.size|none=>0
def ty(P:Program)(t:TypeId):Ty :=
 match P.info? t,P.underlying t with
 |some i,some d =>
  let base:Ty:={ kind:=0,size:=i.size,bytes:=i.bytes,elem:=0,len:=0,zero:=i.zero.map (·.cells.toList),aF:=[] }
  match d with
  |.slice e=>{ base with kind:=1,elem:=e }
  |.array n e=>{ base with kind:=2,elem:=e,len:=n }
  |.struct fs=>{ base with kind:=3,aF:=fs.toList.map λf=>(f.offset,f.type,rv P f.type) }
  |.string=>{ base with kind:=4 }
  |.int _=>{ base with kind:=5 }
  |.bool=>{ base with kind:=6 }
  |.pointer e=>{ base with kind:=7,elem:=e }
  |.map _ e=>{ base with kind:=8,elem:=e }
  |.func _ _ _=>{ base with kind:=9 }
  |_=>base
 |_,_=>{ kind:=99,size:=0,bytes:=0,elem:=0,len:=0,zero:=none,aF:=[] }
def Ty.isAgg(t:Ty):Bool:=t.kind==2||t.kind==3
def pq{P:Program}{t:TypeId}(h:(ty P t).kind≠99):∃i d,P.info? t=some i/\P.underlying t=some d/\(ty P t).size=i.size/\(ty P t).bytes=i.bytes/\(ty P t).zero=i.zero.map (·.cells.toList):=by
 unfold ty at h ⊢;cases hi:P.info? t with
 |none=>simp[hi]at h
 |some i =>
  cases hd:P.underlying t with
  |none=>simp[hi,hd]at h
  |some d =>
   refine⟨i,d,rfl,rfl,?_,?_,?_⟩<;>cases d<;>rfl
def oe{P:Program}{t:TypeId}(h:(ty P t).kind=1):P.underlying t=some (.slice (ty P t).elem):=by
 unfold ty at h ⊢;cases hi:P.info? t<;>cases hd:P.underlying t<;>simp[hi,hd]at h ⊢;rename_i i d;cases d<;>simp at h ⊢
def EB{P:Program}{t:TypeId}(h:(ty P t).kind=2):P.underlying t=some (.array (ty P t).len (ty P t).elem):=by
 unfold ty at h ⊢;cases hi:P.info? t<;>cases hd:P.underlying t<;>simp[hi,hd]at h ⊢;rename_i i d;cases d<;>simp at h ⊢
def Ez{P:Program}{t:TypeId}(h:(ty P t).kind=3):∃fs,P.underlying t=some (.struct fs)/\(ty P t).aF=fs.toList.map λf=>(f.offset,f.type,rv P f.type):=by
 unfold ty at h ⊢;cases hi:P.info? t<;>cases hd:P.underlying t<;>simp[hi,hd]at h ⊢;rename_i i d;cases d<;>simp at h ⊢
def T7{P:Program}{t:TypeId}(h:(ty P t).kind=6):P.underlying t=some .bool:=by
 unfold ty at h;cases hi:P.info? t<;>cases hd:P.underlying t<;>simp[hi,hd]at h ⊢;rename_i i d;cases d<;>simp at h ⊢
def dr:Value->AV
 |.agg cs=>.agg (cs.toList.map .lit)
 |v=>.lit v
def ev(σ:St):Operand->AV
 |.tmp t=>σ.env t
 |.const v=>dr v
 |.func f=>.fn f []
 |.global g=>qY g
def St.put(σ:St)(dst:Option Tmp)(v:AV):St :=
 match dst with
 |some d=>{ σ with env:=eY σ.env d v }
 |none=>σ
def bU:AV->Bool
 |.lit v=>v.oneCell'
 |.tree ..|.cm _|.ref ..|.ptr ..|.fn ..|.fj ..|.dx ..=>true
 |_=>false
def cellsOf:AV->List AV
 |.agg cs=>cs
 |v=>[v]
def setCells(cells:List AV)(c:Nat):List AV->List AV
 |[]=>cells
 |v::vs=>setCells (cells.set c v) (c+1) vs
def jN(place:Nat->Option (Nat×Nat))(cells:List AV):List (Nat×AV)->Option (List AV)
 |[]=>some cells
 | (i,v)::rest =>
  match place i with
  |none=>none
  |some (off,size)=>if(cellsOf v).length=size/\off+size<=cells.length then jN place (setCells cells off (cellsOf v)) rest else none
def jO(sz:Nat):Nat->List AV->List (List AV)
 |0,_=>[]
 |n+1,cs=>cs.take sz::jO sz n (cs.drop sz)
def rowOf(σ:St)(id r:Nat):Option (List AV) :=
 match σ.aa[id]? with
 |some (.var cells)=>if r=0 then some cells else none
 |some (.arr _ rows)=>rows[r]?
 |_=>none
def kZ(σ:St)(id r:Nat)(row:List AV):St :=
 match σ.aa[id]? with
 |some (.var _)=>{ σ with aa:=σ.aa.set id (.var row) }
 |some (.arr sz rows)=>{ σ with aa:=σ.aa.set id (.arr sz (rows.set r row)) }
 |_=>σ
def jM(t:Ty)(cells:List AV)(c:Nat)(K:AV->Prop):Prop :=
 if t.isAgg then c+t.size<=cells.length/\K (.agg ((cells.drop c).take t.size))
 else match cells[c]? with
  |some v=>K v
  |none=>False
def lE:List AV->Option (List Int)
 |[]=>some []
 |.lit (.int .i64 a)::r=>(lE r).map (a::·)
 |_=>none
def m7(P:Program)(t:TypeId)(n:Nat):Prop :=
 ∀ (w:World) (as bs:List Int),as.length=n->bs.length=n ->
  (Op.equalIn 10000 t (.agg (as.map (Value.int .i64)).toArray) (.agg (bs.map (Value.int .i64)).toArray)).run P w=.ok (decide (as=bs)) w
def uq(k:IntKind)(a b:Int):Int:=k.wrap ((BitVec.ofInt k.bits a &&& BitVec.ofInt k.bits b).toNat)
def xZ(a b:Int):Int:=IntKind.i64.wrap ((BitVec.ofInt 64 a &&& BitVec.ofInt 64 b).toNat)
def J8(a b:Int):uq .i64 a b=xZ a b:=by unfold uq xZ;rfl
def qo(k:IntKind)(a b:Int)(K:Value->Prop):Prop:=if k=.u64 then K (.int k (k.wrap (a*b))) else(k.min<=a*b/\a*b<=k.max)/\K (.int k (a*b))
def oZ(k:IntKind)(a:Int)(K:Value->Prop):Prop:=if k=.u64 then K (.int k (k.wrap (-a))) else(k.min<=-a/\-a<=k.max)/\K (.int k (-a))
def H7{a b:Int}{K:Value->Prop}:qo .i64 a b K=((IntKind.i64.min<=a*b/\a*b<=IntKind.i64.max)/\K (.int .i64 (a*b))):=rfl
def H8{a b:Int}{K:Value->Prop}:qo .u64 a b K=K (.int .u64 (IntKind.u64.wrap (a*b))):=rfl
def H9{a:Int}{K:Value->Prop}:oZ .i64 a K=((IntKind.i64.min<=-a/\-a<=IntKind.i64.max)/\K (.int .i64 (-a))):=rfl
def H'{a:Int}{K:Value->Prop}:oZ .u64 a K=K (.int .u64 (IntKind.u64.wrap (-a))):=rfl
def eS(op:BinOp)(k:IntKind)(a b:Int)(K:Value->Prop):Prop :=
 match op with
 |.add=>(k.min<=a+b/\a+b<=k.max)/\K (.int k (a+b))
 |.sub=>(k.min<=a-b/\a-b<=k.max)/\K (.int k (a-b))
 |.mul=>qo k a b K
 |.quo=>(0<=a/\0<b/\a<=k.max)/\K (.int k (a/b))
 |.rem=>b≠0/\K (.int k (a.tmod b))
 |.and=>K (.int k (uq k a b))
 |.shr=>(0<=b/\b.toNat<=k.bits)/\K (.int k (a/2^b.toNat))
 |.eql=>K (.bool (a==b))
 |.neq=>K (.bool (a != b))
 |.lss=>K (.bool (decide (a<b)))
 |.leq=>K (.bool (decide (a<=b)))
 |.gtr=>K (.bool (decide (a > b)))
 |.geq=>K (.bool (decide (a >= b)))
 |_=>False
def ef(t:Bool):AV->AV->AV
 |.lit (.bool x),.lit (.bool y)=>.lit (.bool (bif t then x else y))
 |a,b=>if t then a else b
def k7(σ:St):AV->Option (Nat×List (List AV))
 |.tree sz rows=>some (sz,rows)
 |.ref id sz off len =>
  match σ.aa[id]? with
  |some (.arr bV rows)=>if bV=sz then some (sz,(rows.drop off).take len) else none
  |_=>none
 |_=>none
def m9(σ:St)(sz:Nat):AV->Option (List (List AV)×St)
 |.lit (.slice none 0 0)=>some ([],σ)
 |.ref id bV off len =>
  match σ.aa[id]? with
  |some (.arr iI rows)=>if iI=bV/\bV=sz then some ((rows.drop off).take len,{ σ with aa:=σ.aa.set id .gone }) else none
  |_=>none
 |_=>none
end Go.Am
namespace Go.Am
variable (P:Program)
def dP(l:List Int):List (List Int×AV)->Nat->Option Nat
 |[],_=>none
 |p::r,i=>if p.1=l then some i else dP l r (i+1)
def kh(l:List Int)(L:List (List Int×AV)):Option AV:=(dP l L 0).bind λi=>(L[i]?).map (·.2)
def cB(l:List Int)(v:AV)(L:List (List Int×AV)):List (List Int×AV) :=
 match dP l L 0 with
 |some i=>L.set i (l,v)
 |none=>L++[(l,v)]
def qe(l:List Int)(L:List (List Int×AV)):Nat:=(dP l L 0).getD L.length
def k9(n:Nat)(v:AV)(L:List (List Int×AV)):List (List Int×AV):=L.set n ((L.getD n ([],.undef)).1,v)
def gF(P:Program)(t:TypeId)(ag:Nat):Prop:=∃ kt et,P.underlying t=some (.map kt et)/\∀ l:List Int,l.length=gA ag ->
 (∀ e w,(Instr.checkKey e 10000 kt (kV ag l)).run P w=.ok () w)/\(∀ w,(Instr.keyThatStays (kV ag l) (kV ag l)).run P w=.ok (kV ag l) w) /\
 ∀ (f:Nat->Value) (L:List (List Int×AV)) w,(∀ p∈L,p.1.length=gA ag)->(Instr.findKey kt (kV ag l) (eN (cw ag f L)).toList).run P w=.ok ((dP l L 0).map λi=>(i,f i)) w
def zeroV(P:Program)(t:TypeId):Option Value :=
 match P.info? t with
 |some i=>i.zero
 |none=>none
def uI(P:Program)(t:TypeId):Nat :=
 match P.underlying t with
 |some (.map kt _)=>if(ty P kt).isAgg then(ty P kt).size else 0
 |_=>0
def keyOf:AV->Option (Nat×List Int)
 |.lit (.int .i64 n)=>some (0,[n])
 |.agg cs=>(lE cs).map λl=>(l.length,l)
 |_=>none
def jo(σ:St):AV->Option (Nat×Nat×List (List Int×AV))
 |.dx id =>
  match σ.aa[id]? with
  |some (.mp ag L)=>some (id,ag,L)
  |_=>none
 |_=>none
def qf(s:ByteArray)(n:Nat):Int :=
 match s[n]? with
 |some b=>b.toNat
 |none=>0
def uJ(P:Program)(t:TypeId):Bool :=
 match P.underlying t with
 |some (.interface _)=>true
 |some _=>false
 |none=>true
def bF (o:Oper) (σ:St) (K:St->Prop):Prop :=
  match o.op with
  | .move x | .assign x=>K (σ.put o.dst (ev σ x))
  | .pick c a b =>
    match ev σ c with
    | .lit (.bool t)=>K (σ.put o.dst (ef t (ev σ a) (ev σ b)))
    | _=>False
  | .alloc e =>
    (ty P e).kind≠99 /\
    match (ty P e).zero with
    | some z=>K (({ σ with aa:=σ.aa++[.var (z.map .lit)] }:St).put o.dst (.ptr σ.aa.length 0 0))
    | none=>False
  | .box _ x=>(cellsOf (ev σ x)).all bU=true/\K (({ σ with aa:=σ.aa++[.var (cellsOf (ev σ x))] }:St).put o.dst (.ptr σ.aa.length 0 0))
  | .build t parts =>
    match (ty P t).kind,(ty P t).zero with
    | 3,some z =>
      match jN (λi=>((ty P t).aF[i]?).map λf=>(f.1,f.2.2)) (z.map .lit) (parts.toList.map λp=>(p.1,ev σ p.2)) with
      | some cs=>((parts.toList.all λp=>(cellsOf (ev σ p.2)).all bU)=true/\((ty P t).aF.all λf=>decide (0<f.2.2))=true)/\K (σ.put o.dst (.agg cs))
      | none=>False
    | 2,some z =>
      match jN (λi=>some (i * (ty P (ty P t).elem).size,(ty P (ty P t).elem).size)) (z.map .lit) (parts.toList.map λp=>(p.1,ev σ p.2)) with
      | some cs=>((parts.toList.all λp=>(cellsOf (ev σ p.2)).all bU)=true/\(ty P (ty P t).elem).kind≠99)/\K (σ.put o.dst (.agg cs))
      | none=>False
    | _,_=>False
  | .buildSlice t len parts =>
    match (ty P t).kind,(ty P (ty P t).elem).zero with
    | 1,some z =>
      match jN (λi=>some (i * (ty P (ty P t).elem).size,(ty P (ty P t).elem).size)) ((List.range len).flatMap λ_=>z.map .lit) (parts.toList.map λp=>(p.1,ev σ p.2)) with
      | some cs=>((ty P (ty P t).elem).kind≠99/\0<(ty P (ty P t).elem).size/\z.length=(ty P (ty P t).elem).size/\len * (ty P (ty P t).elem).size<=16777216/\(parts.toList.all λp=>(cellsOf (ev σ p.2)).all bU)=true) /\
          K (({ σ with aa:=σ.aa++[.arr (ty P (ty P t).elem).size (jO (ty P (ty P t).elem).size len cs)] }:St).put o.dst (.ref σ.aa.length (ty P (ty P t).elem).size 0 len))
      | none=>False
    | _,_=>False
  | .load t a =>
    (ty P t).kind≠99 /\
    match ev σ a with
    | .ptr id r c =>
      match rowOf σ id r with
      | some row=>jM (ty P t) row c λv=>K (σ.put o.dst v)
      | none=>False
    | .cm cells=>jM (ty P t) cells 0 λv=>K (σ.put o.dst v)
    | _=>False
  | .store t a x =>
    (ty P t).kind≠99 /\
    match ev σ a with
    | .ptr id r c =>
      match rowOf σ id r with
      | some row=>((cellsOf (ev σ x)).length=(ty P t).size/\c+(ty P t).size<=row.length/\(cellsOf (ev σ x)).all bU=true)/\K ((kZ σ id r (setCells row c (cellsOf (ev σ x)))).put o.dst .undef)
      | none=>False
    | _=>False
  | .nilCheck x =>
    match ev σ x with
    | .ptr id r c =>
      match σ.aa[id]? with
      | some .gone=>False
      | some _=>K (σ.put o.dst (.ptr id r c))
      | none=>False
    | .cm cells=>K (σ.put o.dst (.cm cells))
    | _=>False
  | .binOp op t x y _ =>
    match ev σ x,ev σ y with
    | .lit (.int k a),.lit (.int k' b)=>k=k'/\eS op k a b λv=>K (σ.put o.dst (.lit v))
    | .lit (.bool a),.lit (.bool b) =>
      (ty P t).kind=6 /\
      match op with
      | .eql=>K (σ.put o.dst (.lit (.bool (a == b))))
      | .neq=>K (σ.put o.dst (.lit (.bool (a != b))))
      | _=>False
    | .tree _ rows,.lit (.slice none 0 0) =>
      ((ty P t).kind=1/\0<rows.length) /\
      match op with
      | .eql=>K (σ.put o.dst (.lit (.bool false)))
      | .neq=>K (σ.put o.dst (.lit (.bool true)))
      | _=>False
    | .lit (.slice a _ _),.lit (.slice none 0 0) =>
      (ty P t).kind=1 /\
      match op with
      | .eql=>K (σ.put o.dst (.lit (.bool a.isNone)))
      | .neq=>K (σ.put o.dst (.lit (.bool (!a.isNone))))
      | _=>False
    | .agg cs,.agg ds =>
      match lE cs,lE ds with
      | some as,some bs =>
        (m7 P t as.length/\bs.length=as.length/\P.eqGuardType P.depth t=false) /\
        match op with
        | .eql=>K (σ.put o.dst (.lit (.bool (decide (as=bs)))))
        | .neq=>K (σ.put o.dst (.lit (.bool (!decide (as=bs)))))
        | _=>False
      | _,_=>False
    | _,_=>False
  | .unOp op _ x =>
    match op,ev σ x with
    | .not,.lit (.bool b)=>K (σ.put o.dst (.lit (.bool !b)))
    | .neg,.lit (.int k a)=>oZ k a λv=>K (σ.put o.dst (.lit v))
    | _,_=>False
  | .makeFunc fn first captured =>
    match fn with
    | .func f=>first.size=0/\K (σ.put o.dst (.fn f (captured.toList.map (ev σ))))
    | _=>False
  | .makeSlice t l c =>
    match (ty P t).kind,(ty P (ty P t).elem).zero,ev σ l,ev σ c with
    | 1,some z,.lit (.int k n),.lit (.int k' n') =>
      ((ty P (ty P t).elem).kind≠99/\0<(ty P (ty P t).elem).size/\z.length=(ty P (ty P t).elem).size/\n'=n/\0<=n/\n<=1099511627776/\(ty P (ty P t).elem).bytes<=128/\k=k) /\
        K (({ σ with aa:=σ.aa++[.arr (ty P (ty P t).elem).size (ax n.toNat (z.map .lit))] }:St).put o.dst (.ref σ.aa.length (ty P (ty P t).elem).size 0 n.toNat))/\k'=k'
    | _,_,_,_=>False
  | .slice t x lo hi mx =>
    (ty P t).kind=1/\(ty P (ty P t).elem).kind≠99/\mx=none /\
    match ev σ x with
    | .ref id sz off len =>
      match σ.aa[id]? with
      | some (.arr bV rows) =>
        bV=sz/\sz=(ty P (ty P t).elem).size /\
        match lo.map (ev σ),hi.map (ev σ) with
        | none,none=>K (σ.put o.dst (.ref id sz off len))
        | some (.lit (.int _ l)),none=>(0<=l/\l<=len/\rows.length=rows.length)/\K (σ.put o.dst (.ref id sz (off+l.toNat) (len - l.toNat)))
        | none,some (.lit (.int _ h))=>(0<=h/\h<=len)/\K (σ.put o.dst (.ref id sz off h.toNat))
        | some (.lit (.int _ l)),some (.lit (.int _ h))=>(0<=l/\l<=h/\h<=len)/\K (σ.put o.dst (.ref id sz (off+l.toNat) (h.toNat - l.toNat)))
        | _,_=>False
      | _=>False
    | .tree sz rows =>
        (rows≠[]->sz=(ty P (ty P t).elem).size) /\
        match lo.map (ev σ),hi.map (ev σ) with
        | none,none=>K (σ.put o.dst (.tree sz rows))
        | some (.lit (.int _ l)),none=>(0<=l/\l<=rows.length)/\K (σ.put o.dst (.tree sz (rows.drop l.toNat)))
        | none,some (.lit (.int _ h))=>(0<=h/\h<=rows.length)/\K (σ.put o.dst (.tree sz (rows.take h.toNat)))
        | some (.lit (.int _ l)),some (.lit (.int _ h))=>(0<=l/\l<=h/\h<=rows.length)/\K (σ.put o.dst (.tree sz ((rows.take h.toNat).drop l.toNat)))
        | _,_=>False
    | _=>False
  | .fieldAddr s x f =>
    match (ty P s).kind,(ty P s).aF[f]? with
    | 3,some (off,_,size) =>
      0<size /\
      match ev σ x with
      | .ptr id r c =>
        match σ.aa[id]? with
        | some .gone=>False
        | some _=>K (σ.put o.dst (.ptr id r (c+off)))
        | none=>False
      | .cm cells=>K (σ.put o.dst (.cm (cells.drop off)))
      | _=>False
    | _,_=>False
  | .field s x f =>
    match (ty P s).kind,(ty P s).aF[f]? with
    | 3,some (off,t,size) =>
      (ty P t).kind≠99/\size=(ty P t).size /\
      match ev σ x with
      | .agg cs=>if (ty P t).isAgg then off+size<=cs.length/\K (σ.put o.dst (.agg ((cs.drop off).take size))) else
          match cs[off]? with
          | some v=>K (σ.put o.dst v)
          | none=>False
      | _=>False
    | _,_=>False
  | .indexAddr t x i =>
    match (ty P t).kind,ev σ x,ev σ i with
    | 1,.ref id sz off len,.lit (.int _ n) =>
      match σ.aa[id]? with
      | some (.arr bV _)=>(bV=sz/\sz=(ty P (ty P t).elem).size/\(ty P (ty P t).elem).kind≠99/\0<=n/\n<len)/\K (σ.put o.dst (.ptr id (off+n.toNat) 0))
      | _=>False
    | 1,.tree sz rows,.lit (.int _ n)=>(sz=(ty P (ty P t).elem).size/\(ty P (ty P t).elem).kind≠99/\0<=n/\n<rows.length)/\K (σ.put o.dst (.cm (rows.getD n.toNat [])))
    | 2,.ptr id r c,.lit (.int _ n) =>
      match σ.aa[id]? with
      | some .gone=>False
      | some _=>((ty P (ty P t).elem).kind≠99/\0<=n/\n<(ty P t).len)/\K (σ.put o.dst (.ptr id r (c+n.toNat * (ty P (ty P t).elem).size)))
      | none=>False
    | 2,.cm cells,.lit (.int _ n)=>((ty P (ty P t).elem).kind≠99/\0<=n/\n<(ty P t).len)/\K (σ.put o.dst (.cm (cells.drop (n.toNat * (ty P (ty P t).elem).size))))
    | _,_,_=>False
  | .makeMap t r=>(r=none/\(ty P t).kind=8)/\K (({ σ with aa:=σ.aa++[.mp (uI P t) []] }:St).put o.dst (.dx σ.aa.length))
  | .lookup t x i ok =>
    match keyOf (ev σ i),jo σ (ev σ x),zeroV P (ty P t).elem with
    | some (ag,l),some (_,fT,L),some z=>(gF P t ag/\fT=ag/\l.length=gA ag/\(ty P t).kind=8/\ok=false)/\K (σ.put o.dst ((kh l L).getD (.lit z)))
    | _,_,_=>False
  | .mapUpdate t m k x =>
    match keyOf (ev σ k),jo σ (ev σ m) with
    | some (ag,l),some (id,fT,L)=>(gF P t ag/\fT=ag/\l.length=gA ag)/\K (({ σ with aa:=σ.aa.set id (.mp ag (cB l (ev σ x) L)) }:St).put o.dst .undef)
    | _,_=>False
  | .mapEntry t m k =>
    match keyOf (ev σ k),jo σ (ev σ m),zeroV P (ty P t).elem with
    | some (ag,l),some (id,fT,L),some z=>(gF P t ag/\fT=ag/\l.length=gA ag/\(ty P t).kind=8) /\
      K (({ σ with aa:=σ.aa.set id (.mp ag (cB l ((kh l L).getD (.lit z)) L)) }:St).put o.dst (.bP [(kh l L).getD (.lit z),.lit (.int .i64 (qe l L:Nat))]))
    | _,_,_=>False
  | .entryStore _ m s x =>
    match ev σ s,jo σ (ev σ m) with
    | .lit (.int .i64 n),some (id,ag,L)=>(0<=n/\n<L.length)/\K (({ σ with aa:=σ.aa.set id (.mp ag (k9 n.toNat (ev σ x) L)) }:St).put o.dst .undef)
    | _,_=>False
  | .index t x i =>
    match ev σ x,ev σ i with
    | .lit (.string s),.lit (.int _ n)=>(P.underlying t=some .string/\0<=n/\n<s.size)/\K (σ.put o.dst (.lit (.int .u8 (qf s n.toNat))))
    | _,_=>False
  | .makeInterface t x=>uJ P t=false/\K (σ.put o.dst (.fj t (ev σ x)))
  | .typeAssert x _ asserted ok =>
    match ev σ x with
    | .fj t v=>(uJ P asserted=false/\t=asserted/\ok=false)/\K (σ.put o.dst v)
    | _=>False
  | .extract x i =>
    match ev σ x with
    | .bP vs =>
      match vs[i]? with
      | some v=>K (σ.put o.dst v)
      | none=>False
    | _=>False
  | .call { callee:=.builtin .len,args,argTypes } =>
    match args.toList,argTypes.toList with
    | [x],[t] =>
      match ev σ x with
      | .ref id sz _ len =>
        (ty P t).kind=1 /\
        match σ.aa[id]? with
        | some (.arr bV _)=>bV=sz/\K (σ.put o.dst (.lit (.int .i64 len)))
        | _=>False
      | .tree _ rows=>(ty P t).kind=1/\K (σ.put o.dst (.lit (.int .i64 rows.length)))
      | .lit (.slice none 0 0)=>(ty P t).kind=1/\K (σ.put o.dst (.lit (.int .i64 0)))
      | .dx id =>
        (ty P t).kind=8 /\
        match σ.aa[id]? with
        | some (.mp _ L)=>K (σ.put o.dst (.lit (.int .i64 L.length)))
        | _=>False
      | _=>False
    | _,_=>False
  | .call { callee:=.builtin .append,args,argTypes } =>
    match args.toList,argTypes.toList with
    | [s,x],[t,t'] =>
      match (ty P t).kind,(ty P (ty P t).elem).zero,m9 σ (ty P (ty P t).elem).size (ev σ s),k7 σ (ev σ x) with
      | 1,some z,some (pre,σ1),some (sz,src) =>
        (t'=t/\(ty P (ty P t).elem).kind≠99/\sz=(ty P (ty P t).elem).size/\0<sz/\z.length=sz/\pre.length+src.length<=549755813888/\(ty P (ty P t).elem).bytes<=128/\(src.all λrow=>row.all bU)=true) /\
          K (({ σ1 with aa:=σ1.aa++[.arr sz (pre++src)] }:St).put o.dst (.ref σ1.aa.length sz 0 (pre.length+src.length)))
      | _,_,_,_=>False
    | _,_=>False
  | .call { callee:=.builtin .min,args,argTypes:=_ } =>
    match args.toList with
    | [x,y] =>
      match ev σ x,ev σ y with
      | .lit (.int k a),.lit (.int k' b)=>k=k'/\K (σ.put o.dst (.lit (.int k (min a b))))
      | _,_=>False
    | _=>False
  | .call { callee:=.builtin .max,args,argTypes:=_ } =>
    match args.toList with
    | [x,y] =>
      match ev σ x,ev σ y with
      | .lit (.int k a),.lit (.int k' b)=>k=k'/\K (σ.put o.dst (.lit (.int k (max a b))))
      | _,_=>False
    | _=>False
  | .call { callee:=.builtin .copy,args,argTypes } =>
    match args.toList,argTypes.toList with
    | [s,x],[t,_] =>
      match ev σ s,k7 σ (ev σ x) with
      | .ref id sz off len,some (bV,src) =>
        match σ.aa[id]? with
        | some (.arr iI rows) =>
          ((ty P t).kind=1/\(ty P (ty P t).elem).kind≠99/\bV=sz/\iI=sz/\sz=(ty P (ty P t).elem).size/\0<sz/\(src.all λrow=>row.all bU)=true) /\
            K (({ σ with aa:=σ.aa.set id (.arr sz (rows.take off++src.take (min src.length len)++rows.drop (off+min src.length len))) }:St).put o.dst (.lit (.int .i64 (min src.length len:Nat))))
        | _=>False
      | _,_=>False
    | _,_=>False
  | .call { callee:=.builtin .clear,args,argTypes } =>
    match args.toList,argTypes.toList with
    | [s],[t] =>
      match ev σ s,(ty P (ty P t).elem).zero with
      | .ref id sz off len,some z =>
        match σ.aa[id]? with
        | some (.arr bV rows) =>
          ((ty P t).kind=1/\(ty P (ty P t).elem).kind≠99/\bV=sz/\z.length=sz/\0<sz/\(z.all λu=>u.oneCell')=true) /\
            K (({ σ with aa:=σ.aa.set id (.arr sz (rows.take off++ax len (z.map AV.lit)++rows.drop (off+len))) }:St).put o.dst (.lit (.tuple #[])))
        | _=>False
      | _,_=>False
    | _,_=>False
  | .convert s d x =>
    match P.underlying d,ev σ x with
    | some (.int k),.lit (.int _ n)=>(P.underlying s).isSome=true/\K (σ.put o.dst (.lit (.int k (k.wrap n))))
    | _,_=>False
  | _=>False
end Go.Am

