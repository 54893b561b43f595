import Derived.Test.YtodilglobhifaaaGreatDoorX00
import Derived.Orders
import Derived.Laws.AppendOwn
import Derived.Laws.MakeOwn
import Derived.Laws.Slices
import Derived.Laws.Small
set_option linter.all false
set_option maxHeartbeats 0
set_option maxRecDepth 20000
open Nat renaming le_refl→aM,le_trans→mE,lt_of_lt_of_le→E0,ne_of_lt→j6,lt_or_ge→dr
open List renaming getElem?_eq_some_iff→aN,getElem?_append_left→cG,getElem?_set→bT,replicate→aD
open Array renaming getD_eq_getD_getElem?→dJ,getElem?_eq_some_iff→lT
namespace Go.Am
inductive AV where
 |undef
 |lit (v:Value)
 |tree (sz:Nat) (rows:List (List AV))
 |bU (cells:List AV)
 |ref (id sz off len:Nat)
 |ptr (id r c:Nat)
 |agg (cs:List AV)
 |bH (vs:List AV)
 |fn (f:FuncId) (bg:List AV)
 |fI (t:TypeId) (v:AV)
 |dP (id:Nat)
 deriving Inhabited
abbrev aam(n:Int):AV:=.lit (.int .i64 n)
inductive Ob where
 |gone
 |var (cells:List AV)
 |arr (sz:Nat) (rows:List (List AV))
 |mp (ag:Nat) (L:List (List Int×AV))
 deriving Inhabited
structure St where
 env:Nat->AV
 aa:List Ob
def iL(e:Nat->AV)(d:Nat)(v:AV):Nat->AV:=λk=>if k=d then v else e k
def cellAt(rows:List (List AV))(r c:Nat):Option AV:=(rows[r]?).bind (·[c]?)
def cE(ents:List (Value×Value)):Array MapEntry:=(ents.mapIdx λi p=>(⟨p.1,p.2,i⟩:MapEntry)).toArray
def kV(ag:Nat)(l:List Int):Value:=if ag=0 then .int .i64 (l.headD 0) else .agg (l.map λn=>.int .i64 n).toArray
def g9(ag:Nat):Nat:=if ag=0 then 1 else ag
def cP(ag:Nat)(f:Nat->Value)(L:List (List Int×AV)):List (Value×Value):=L.mapIdx λj p=>(kV ag p.1,f j)
def Gd(ag:Nat)(f:Nat->Value)(g:AV->AV)(L:List (List Int×AV)):cP ag f (L.map λp=>(p.1,g p.2))=cP ag f L:=by
 unfold cP;apply List.ext_getElem
 ·simp
 ·intros;simp
abbrev fi:=Nat->Option (Nat×Nat×Nat)
inductive fK(w:World)(Z:Nat->Prop):AV->Value->Prop where
 |lit (v:Value):fK w Z (.lit v) v
 |nil (sz cap:Nat) (a:Option Addr):fK w Z (.tree sz []) (.slice a 0 cap)
 |tree (sz:Nat) (rows:List (List AV)) (b o cap:Nat) (f:Nat->Nat->Value) (hz:Z b) (hr:∀ row∈rows,row.length=sz) (zX:rows.length<=cap)
   (hc:∀ r c x,cellAt rows r c=some x->w.cell? ⟨b,o+(r*sz+c),none⟩=some (f r c))
   (ht:∀ r c x,cellAt rows r c=some x->fK w Z x (f r c)):fK w Z (.tree sz rows) (.slice (some ⟨b,o,none⟩) rows.length cap)
inductive au(os:List Ob)(w:World)(Z:Nat->Prop)(blk:fi):AV->Value->Prop where
 |undef (cv:Value):au os w Z blk .undef cv
 |bV (v:AV) (cv:Value) (h:fK w Z v cv):au os w Z blk v cv
 |bU (cells:List AV) (b o:Nat) (f:Nat->Value) (hz:Z b) (hc:∀ j x,cells[j]?=some x->w.cell? ⟨b,o+j,none⟩=some (f j))
   (ht:∀ j x,cells[j]?=some x->fK w Z x (f j)):au os w Z blk (.bU cells) (.pointer (some ⟨b,o,none⟩))
 |iY (id sz off len:Nat) (cv:Value) (h:os[id]?=some .gone) (h1:cv.oneCell'=true):au os w Z blk (.ref id sz off len) cv
 |kQ (id r c:Nat) (cv:Value) (h:os[id]?=some .gone) (h1:cv.oneCell'=true):au os w Z blk (.ptr id r c) cv
 |ref (id sz off len b o cap cap':Nat) (rows:List (List AV)) (h:os[id]?=some (.arr sz rows)) (hb:blk id=some (b,o,cap))
   (hl:off+len<=rows.length) (hc:off+cap'<=cap) (eK:len<=cap'):au os w Z blk (.ref id sz off len) (.slice (some ⟨b,o+off*sz,none⟩) len cap')
 |jU (id sz:Nat) (h:os[id]?=some (.arr sz [])) (hb:blk id=none):au os w Z blk (.ref id sz 0 0) (.slice none 0 0)
 |kn (id sz off b x:Nat) (bo:Nat×Nat) (rows:List (List AV)) (h:os[id]?=some (.arr sz rows)) (hb:blk id=some (b,bo)) (hl:off<=rows.length) :
   au os w Z blk (.ref id sz off 0) (.slice (some ⟨b,x,none⟩) 0 0)
 |lv (id c b cap:Nat) (cells:List AV) (h:os[id]?=some (.var cells)) (hb:blk id=some (b,0,cap)):au os w Z blk (.ptr id 0 c) (.pointer (some ⟨b,c,none⟩))
 |ma (id r c sz b o cap:Nat) (rows:List (List AV)) (h:os[id]?=some (.arr sz rows)) (hb:blk id=some (b,o,cap)) :
   au os w Z blk (.ptr id r c) (.pointer (some ⟨b,o+(r*sz+c),none⟩))
 |agg (cs:List AV) (aR:Array Value) (hs:aR.size=cs.length) (h:∀ j x,cs[j]?=some x->au os w Z blk x (aR.getD j Go.undef)):au os w Z blk (.agg cs) (.agg aR)
 |bH (cs:List AV) (aR:Array Value) (hs:aR.size=cs.length) (h:∀ j x,cs[j]?=some x->au os w Z blk x (aR.getD j Go.undef)):au os w Z blk (.bH cs) (.tuple aR)
 |fn (f:FuncId) (cs:List AV) (aR:Array Value) (hs:aR.size=cs.length) (h:∀ j x,cs[j]?=some x->au os w Z blk x (aR.getD j Go.undef)) :
   au os w Z blk (.fn f cs) (.func (.func f) #[] aR)
 |fI (t:TypeId) (v:AV) (cv:Value) (h:au os w Z blk v cv):au os w Z blk (.fI t v) (.iface t cv)
 |dP (id b:Nat) (ag:Nat) (L:List (List Int×AV)) (h:os[id]?=some (.mp ag L)) (hb:blk id=some (b,0,0)):au os w Z blk (.dP id) (.map (some b))
 |oh (id:Nat) (cv:Value) (h:os[id]?=some .gone) (h1:cv.oneCell'=true):au os w Z blk (.dP id) cv
def vY (os:List Ob) (w:World) (Z:Nat->Prop) (blk:fi) (i:Nat):Ob->Prop
  | .gone=>True
  | .var cells=>∃ b cap cur t,blk i=some (b,0,cap)/\w.heap[b]?=some (.cells cur t (0,0))/\cur.size=cells.length /\
      ∀ c v,cells[c]?=some v->au os w Z blk v (cur.getD c Go.undef)
  | .arr sz rows=>0<sz/\(∀ row∈rows,row.length=sz) /\
      ((blk i=none/\rows=[])\/∃ b o cap cur t,blk i=some (b,o,cap)/\w.heap[b]?=some (.cells cur t (0,0))/\o+cap * sz<=cur.size/\rows.length<=cap/\cap<=maxLen /\
        ∀ r c v,cellAt rows r c=some v->au os w Z blk v (cur.getD (o+(r * sz+c)) Go.undef))
  | .mp ag L=>∃ b,∃ f:Nat->Value,blk i=some (b,0,0)/\w.heap[b]?=some (.map (cE (cP ag f L)) L.length)/\(∀ p∈L,p.1.length=g9 ag)/\∀ (j:Nat) p,L[j]?=some p->au os w Z blk p.2 (f j)
def sM(g:Nat):AV :=
 match zd.lookup g with
 |some cs=>.bU (cs.map .lit)
 |none=>.undef
structure Cx where
 w:World
 tmps:Array Value
 Z:Nat->Prop
 blk:fi
def Live(os:List Ob)(i:Nat):Prop:=∃ o,os[i]?=some o/\o≠.gone
def m4(os:List Ob)(blk:fi)(b:Nat):Prop:=∃ i o cap,Live os i/\blk i=some (b,o,cap)
structure ba(σ:St)(γ:Cx):Prop where
 ao:∀ k,au σ.aa γ.w γ.Z γ.blk (σ.env k) (γ.tmps.getD k Go.undef)
 dQ:∀ (i:Nat) o,σ.aa[i]?=some o->vY σ.aa γ.w γ.Z γ.blk i o
 inj:∀ i j b o c o' c',Live σ.aa i->Live σ.aa j->γ.blk i=some (b,o,c)->γ.blk j=some (b,o',c')->i=j
 nz:∀ b,m4 σ.aa γ.blk b->¬ γ.Z b
 fY:∀ b,γ.Z b->b<γ.w.heap.size
 gl:∀ g,au σ.aa γ.w γ.Z γ.blk (sM g) (.pointer (some ⟨g,0,none⟩))
def Ob.dj:Ob->Ob->Prop
 |.var a,.var b=>a.length=b.length
 |.arr s a,.arr s' b=>s=s'/\a.length=b.length
 |.mp a _,.mp b _=>a=b
 |_,_=>False
def Ob.iC{o:Ob}(h:o≠.gone):o.dj o:=by
 cases o<;>simp_all [Ob.dj]
def Ob.FT{a b c:Ob}(h:a.dj b)(k:b.dj c):a.dj c:=by
 cases a<;>cases b<;>cases c<;>simp_all [Ob.dj]
def Ob.YG{a b:Ob}(h:a.dj b):a≠.gone/\b≠.gone:=by
 cases a<;>cases b<;>simp_all [Ob.dj]
structure Fr(xL:List Ob)(nM:Cx)(os:List Ob)(γ:Cx):Prop where
 kl:γ.w.os=nM.w.os
 tape:γ.w.tape=nM.w.tape
 output:γ.w.output=nM.w.output
 size:nM.w.heap.size<=γ.w.heap.size
 cW:∀ b,b<nM.w.heap.size->¬ m4 xL nM.blk b->γ.w.heap[b]?=nM.w.heap[b]?
 z0:∀ b,nM.Z b->γ.Z b
 z1:∀ b,γ.Z b->nM.Z b\/m4 xL nM.blk b\/nM.w.heap.size<=b
 own:∀ b,m4 os γ.blk b->m4 xL nM.blk b\/nM.w.heap.size<=b
 len:xL.length<=os.length
 jn:∀ i,i<xL.length->Live os i->γ.blk i=nM.blk i/\∃ o o',xL[i]?=some o/\os[i]?=some o'/\o.dj o'
def Fr.refl(os:List Ob)(γ:Cx):Fr os γ os γ :=
 ⟨rfl,rfl,rfl,aM _,λ_ _ _=>rfl,λ_ h=>h,λ_ h=>.inl h,λ_ h=>.inl h,aM _,λ_ _ ⟨o,ho,hg⟩=>⟨rfl,o,o,ho,ho,Ob.iC hg⟩⟩
def Fr.trans{a b c:List Ob}{x y z:Cx}(h:Fr a x b y)(k:Fr b y c z):Fr a x c z where
 kl:=k.kl.trans h.kl
 tape:=k.tape.trans h.tape
 output:=k.output.trans h.output
 size:=mE h.size k.size
 cW:=λn hn ho=>(k.cW n (E0 hn h.size) (λhw=>(h.own n hw).elim ho (λhl=>Bv))).trans (h.cW n hn ho)
 z0:=λn hn=>k.z0 n (h.z0 n hn)
 z1:=λn hn=>by
  rcases k.z1 n hn with h1|h1|h1
  ·exact h.z1 n h1
  ·rcases h.own n h1 with h2|h2
   ·exact .inr (.inl h2)
   ·exact .inr (.inr h2)
  ·exact .inr (.inr (mE h.size h1))
 own:=λn hn=>by
  rcases k.own n hn with h1|h1
  ·exact h.own n h1
  ·exact .inr (mE h.size h1)
 len:=mE h.len k.len
 jn:=λi hi hl=>by
  obtain⟨h1,o,o',ho,cD,hk⟩:=k.jn i (E0 hi h.len) hl;obtain⟨h3,x,x',hx,bR,aY⟩:=h.jn i hi ⟨o,ho,(Ob.YG hk).1⟩;rw[ho]at bR;simp at bR;subst bR;exact⟨h1.trans h3,x,o',hx,cD,Ob.FT aY hk⟩
def GS{w w':World}{b o:Nat}(h:w'.heap[b]?=w.heap[b]?):w'.cell? ⟨b,o,none⟩=w.cell? ⟨b,o,none⟩:=by
 simp[World.cell?,h]
def fK.mono{w w':World}{Z Z':Nat->Prop}{v:AV}{cv:Value}(h:fK w Z v cv)(hz:∀ b,Z b->Z' b/\w'.heap[b]?=w.heap[b]?):fK w' Z' v cv:=by
 induction h with
 |lit v=>exact .lit v
 |nil sz cap a=>exact .nil sz cap a
 |tree sz rows b o cap f pq hr zX hc _ ih =>
  exact .tree sz rows b o cap f (hz b pq).1 hr zX (λr c x hx=>by rw[GS (hz b pq).2];exact hc r c x hx) ih
def au.mono{os os':List Ob}{w w':World}{Z Z':Nat->Prop}{blk iF:fi}{v:AV}{cv:Value}(h:au os w Z blk v cv)(hz:∀ b,Z b->Z' b/\w'.heap[b]?=w.heap[b]?)(ho:∀ i o,os[i]?=some o->os'[i]?=some .gone\/(iF i=blk i/\∃ o',os'[i]?=some o'/\o.dj o')):au os' w' Z' iF v cv:=by
 induction h with
 |undef cv=>exact .undef cv
 |bV v cv h=>exact .bV v cv (h.mono hz)
 |bU cells b o f pq hc ht =>
  exact .bU cells b o f (hz b pq).1 (λj x hx=>by rw[GS (hz b pq).2];exact hc j x hx) (λj x hx=>(ht j x hx).mono hz)
 |iY id sz off len cv h h1 =>
  rcases ho id _ h with h'|⟨_,o',_,hl⟩
  ·exact .iY id sz off len cv h' h1
  ·exact absurd hl (by simp[Ob.dj])
 |kQ id r c cv h h1 =>
  rcases ho id _ h with h'|⟨_,o',_,hl⟩
  ·exact .kQ id r c cv h' h1
  ·exact absurd hl (by simp[Ob.dj])
 |ref id sz off len b o cap cap' rows h hb hl hc eK =>
  rcases ho id _ h with h'|⟨eP,o',cD,hk⟩
  ·exact .iY _ _ _ _ _ h' rfl
  ·cases o'<;>simp[Ob.dj]at hk;obtain⟨rfl,hk⟩:=hk;exact .ref id sz off len b o cap cap' _ cD (eP.trans hb) Bv hc eK
 |jU id sz h hb =>
  rcases ho id _ h with h'|⟨eP,o',cD,hk⟩
  ·exact .iY _ _ _ _ _ h' rfl
  ·cases o'<;>simp[Ob.dj]at hk;obtain⟨rfl,hk⟩:=hk;have aY:=List.eq_nil_of_length_eq_zero hk.symm;subst aY;exact .jU id sz cD (eP.trans hb)
 |kn id sz off b x bo rows h hb hl =>
  rcases ho id _ h with h'|⟨eP,o',cD,hk⟩
  ·exact .iY _ _ _ _ _ h' rfl
  ·cases o'<;>simp[Ob.dj]at hk;obtain⟨rfl,hk⟩:=hk;exact .kn id sz off b x bo _ cD (eP.trans hb) Bv
 |lv id c b cap cells h hb =>
  rcases ho id _ h with h'|⟨eP,o',cD,hk⟩
  ·exact .kQ _ _ _ _ h' rfl
  ·cases o'<;>simp[Ob.dj]at hk;exact .lv id c b cap _ cD (eP.trans hb)
 |ma id r c sz b o cap rows h hb =>
  rcases ho id _ h with h'|⟨eP,o',cD,hk⟩
  ·exact .kQ _ _ _ _ h' rfl
  ·cases o'<;>simp[Ob.dj]at hk;obtain⟨rfl,hk⟩:=hk;exact .ma id r c sz b o cap _ cD (eP.trans hb)
 |agg cs aR hs _ ih=>exact .agg cs aR hs ih
 |bH cs aR hs _ ih=>exact .bH cs aR hs ih
 |fn f cs aR hs _ ih=>exact .fn f cs aR hs ih
 |fI t v cv _ ih=>exact .fI t v cv ih
 |dP id b ag L h hb =>
  rcases ho id _ h with h'|⟨eP,o',cD,hk⟩
  ·exact .oh _ _ h' rfl
  ·cases o'<;>simp[Ob.dj]at hk;subst hk;exact .dP id b _ _ cD (eP.trans hb)
 |oh id cv h h1 =>
  rcases ho id _ h with h'|⟨_,o',cD,hk⟩
  ·exact .oh _ _ h' h1
  ·cases o'<;>simp[Ob.dj]at hk
def vH{os os':List Ob}{w w':World}{Z Z':Nat->Prop}{blk iF:fi}{g:Nat}{cv:Value}(h:au os w Z blk (sM g) cv)(hz:∀ b,Z b->Z' b/\w'.heap[b]?=w.heap[b]?):au os' w' Z' iF (sM g) cv:=by
 unfold sM at h ⊢;generalize zd.lookup g=l at h ⊢;cases l with
 |none=>exact .undef _
 |some cs =>
  dsimp only at h ⊢;cases h with
  |bV _ _ h=>cases h
  |bU cells b o f pq hc ht=>exact .bU _ b o f (hz b pq).1 (λj x hx=>by rw[GS (hz b pq).2];exact hc j x hx) (λj x hx=>(ht j x hx).mono hz)
def Live.lt{os:List Ob}{i:Nat}(h:Live os i):i<os.length:=by
 obtain⟨o,ho,_⟩:=h;exact(aN.1 ho).1
def au.same{os:List Ob}{w w':World}{Z:Nat->Prop}{blk:fi}{v:AV}{cv:Value}(h:au os w Z blk v cv)(hw:w'.heap=w.heap):au os w' Z blk v cv :=
 h.mono (λb hb=>⟨hb,by rw[hw]⟩) (λi o ho=>by
  by_cases hg:o=.gone
  ·subst hg;exact .inl ho
  ·exact .inr ⟨rfl,o,ho,Ob.iC hg⟩)
def vY.mono{os os':List Ob}{w w':World}{Z Z':Nat->Prop}{blk iF:fi}{i:Nat}{o:Ob}(h:vY os w Z blk i o)(hR:∀ v cv,au os w Z blk v cv->au os' w' Z' iF v cv)(hb:iF i=blk i)(hk:∀ b o c,blk i=some (b,o,c)->w'.heap[b]?=w.heap[b]?):vY os' w' Z' iF i o:=by
 cases o with
 |gone=>trivial
 |var cells =>
  obtain⟨b,cap,cur,t,h1,h2,h3,h4⟩:=h;exact⟨b,cap,cur,t,hb.trans h1,(hk _ _ _ h1).trans h2,h3,λc v hv=>hR _ _ (h4 c v hv)⟩
 |arr sz rows =>
  obtain⟨h0,hr,h⟩:=h;refine⟨h0,hr,?_⟩;rcases h with⟨h1,h2⟩|⟨b,o,cap,cur,t,h1,h2,h3,h4,h5,h6⟩
  ·exact .inl ⟨hb.trans h1,h2⟩
  ·exact .inr ⟨b,o,cap,cur,t,hb.trans h1,(hk _ _ _ h1).trans h2,h3,h4,h5,λr c v hv=>hR _ _ (h6 r c v hv)⟩
 |mp ag L =>
  obtain⟨b,f,h1,h2,h3,h4⟩:=h;exact⟨b,f,hb.trans h1,(hk _ _ _ h1).trans h2,h3,λj p hp=>hR _ _ (h4 j p hp)⟩
def ba.put{σ:St}{γ:Cx}(h:ba σ γ)(d:Nat)(hd:d<γ.tmps.size){v:AV}{cv:Value}(hv:au σ.aa γ.w γ.Z γ.blk v cv):
  ba { σ with env:=iL σ.env d v } { γ with tmps:=γ.tmps.setIfInBounds d cv } where
 ao:=λk=>by
  simp only[iL];by_cases hk:k=d
  ·subst hk;simp[dJ,hd];exact hv
  ·simp only[hk,if_false,dJ,Array.getElem?_setIfInBounds_ne (Ne.symm hk)];have:=h.ao k;simpa [dJ] using this
 dQ:=h.dQ
 inj:=h.inj
 nz:=h.nz
 fY:=h.fY
 gl:=h.gl
def ba.Gj{σ:St}{γ:Cx}(h:ba σ γ){w':World}(hw:w'.heap=γ.w.heap):ba σ { γ with w:=w' } where
 ao:=λk=>(h.ao k).same hw
 dQ:=λi o ho=>(h.dQ i o ho).mono (λv cv hv=>hv.same hw) rfl (λb _ _ _=>by rw[hw])
 inj:=h.inj
 nz:=h.nz
 fY:=λb hb=>by have:=h.fY b hb;simpa [hw] using this
 gl:=λg=>(h.gl g).same hw
def Fr.Gj{a b:List Ob}{x y:Cx}(h:Fr a x b y){w':World}(hw:w'.heap=y.w.heap)(h1:w'.os=y.w.os)(h2:w'.tape=y.w.tape)(h3:w'.output=y.w.output):
  Fr a x b { y with w:=w' } :=
 h.trans ⟨h1,h2,h3,by simp[hw],λ_ _ _=>by simp[hw],λ_ h=>h,λ_ h=>.inl h,λ_ h=>.inl h,aM _,λ_ _ ⟨o,ho,hg⟩=>⟨rfl,o,o,ho,ho,Ob.iC hg⟩⟩
def Fr.put{a b:List Ob}{x y:Cx}(h:Fr a x b y)(t:Array Value):Fr a x b { y with tmps:=t }:=⟨h.kl,h.tape,h.output,h.size,h.cW,h.z0,h.z1,h.own,h.len,h.jn⟩
def cB(blk:fi)(n:Nat)(x:Option (Nat×Nat×Nat)):fi:=λi=>if i=n then x else blk i
def qq(os:List Ob)(w:World)(Z:Nat->Prop)(blk:fi)(o cap:Nat)(cur:Array Value):Ob->Prop
 |.gone=>True
 |.var cells=>o=0/\cur.size=cells.length/\∀ c v,cells[c]?=some v->au os w Z blk v (cur.getD c Go.undef)
 |.arr sz rows=>0<sz/\(∀ row∈rows,row.length=sz)/\o+cap*sz<=cur.size/\rows.length<=cap/\cap<=maxLen /\
    ∀ r c v,cellAt rows r c=some v->au os w Z blk v (cur.getD (o+(r*sz+c)) Go.undef)
 |.mp _ _=>False
def qq.GL{os os':List Ob}{w w':World}{Z Z':Nat->Prop}{blk iF:fi}{i b o cap:Nat}{cur:Array Value}{t:TypeId}{ob:Ob}(h:qq os w Z blk o cap cur ob)(hR:∀ v cv,au os w Z blk v cv->au os' w' Z' iF v cv)(hb:iF i=some (b,o,cap))(hk:w'.heap[b]?=some (.cells cur t (0,0))):vY os' w' Z' iF i ob:=by
 cases ob with
 |gone=>trivial
 |var cells =>
  obtain⟨h0,h1,h2⟩:=h;subst h0;exact⟨b,cap,cur,t,hb,hk,h1,λc v hv=>hR _ _ (h2 c v hv)⟩
 |arr sz rows =>
  obtain⟨h0,h1,h2,h3,h4,h5⟩:=h;exact⟨h0,h1,.inr ⟨b,o,cap,cur,t,hb,hk,h2,h3,h4,λr c v hv=>hR _ _ (h5 r c v hv)⟩⟩
 |mp ag L=>exact h.elim
def ba.zO{σ:St}{γ:Cx}(h:ba σ γ){w':World}{x:Obj}{cap:Nat}{ob:Ob}(hw:w'.heap=γ.w.heap.push x)(a9:∀ os' w' iF,(∀ v cv,au σ.aa γ.w γ.Z γ.blk v cv->au os' w' γ.Z iF v cv)->iF σ.aa.length=some (γ.w.heap.size,0,cap)->w'.heap[γ.w.heap.size]?=some x->vY os' w' γ.Z iF σ.aa.length ob):
  ba { σ with aa:=σ.aa++[ob] } { γ with w:=w',blk:=cB γ.blk σ.aa.length (some (γ.w.heap.size,0,cap)) }:=by
 have bq:∀ b,b<γ.w.heap.size->w'.heap[b]?=γ.w.heap[b]?:=λb hb=>by
  rw[hw,Array.getElem?_push,if_neg Bv]
 have hR:∀ v cv,au σ.aa γ.w γ.Z γ.blk v cv->au (σ.aa++[ob]) w' γ.Z (cB γ.blk σ.aa.length (some (γ.w.heap.size,0,cap))) v cv:=λv cv hv =>
  hv.mono (λb hb=>⟨hb,bq b (h.fY b hb)⟩) (λi o ho=>by
   have hi:i<σ.aa.length:=(aN.1 ho).1;have cD:(σ.aa++[ob])[i]?=some o:=by rw[cG hi];exact ho
   by_cases bS:o=.gone
   ·subst bS;exact .inl cD
   ·exact .inr ⟨by simp[cB,j6 hi],o,cD,Ob.iC bS⟩)
 have bI:∀ i,Live (σ.aa++[ob]) i->i=σ.aa.length\/Live σ.aa i:=by
  rintro i⟨o,ho,bS⟩;rcases dr i σ.aa.length with hi|hi
  ·rw[cG hi]at ho;exact .inr ⟨o,ho,bS⟩
  ·left;have:=(aN.1 ho).1;simp at this;omega
 have rI:∀ i b o c,Live σ.aa i->γ.blk i=some (b,o,c)->b<γ.w.heap.size:=by
  rintro i b o c⟨x,hx,dZ⟩hb;have:=h.dQ i x hx;cases x with
  |gone=>exact absurd rfl dZ
  |var cells =>
   obtain⟨b',cap',m6,t',h1,h2,_⟩:=this;rw[hb]at h1;simp at h1;obtain⟨rfl,_⟩:=h1;exact(lT.1 h2).1
  |arr sz rows =>
   obtain⟨_,_,⟨h1,_⟩|⟨b',o',cap',m6,t',h1,h2,_⟩⟩:=this
   ·rw[hb]at h1;simp at h1
   ·rw[hb]at h1;simp at h1;obtain⟨rfl,_⟩:=h1;exact(lT.1 h2).1
  |mp ag L =>
   obtain⟨b',f',h1,h2,_⟩:=this;rw[hb]at h1;simp at h1;obtain⟨rfl,_⟩:=h1;exact(lT.1 h2).1
 refine⟨λk=>hR _ _ (h.ao k),?_,?_,?_,?_,λg=>hR _ _ (h.gl g)⟩
 ·intro i o ho;rcases dr i σ.aa.length with hi|hi
  ·have cD:σ.aa[i]?=some o:=by rw[cG hi]at ho;exact ho
   by_cases bS:o=.gone
   ·subst bS;trivial
   ·refine(h.dQ i o cD).mono hR (by simp[cB,j6 hi]) (λb x c hb=>bq b (rI i b x c ⟨o,cD,bS⟩ hb))
  ·have hi':i=σ.aa.length:=by
    have:=(aN.1 ho).1;simp at this;omega
   subst hi';simp at ho;subst ho;exact a9 _ _ _ hR (by simp[cB]) (by rw[hw];simp)
 ·intro i j b o c o' c' hi hj eW fB;simp only[cB]at eW fB;rcases bI i hi with rfl|hi'<;>rcases bI j hj with rfl|eF
  ·rfl
  ·rw[if_pos rfl]at eW;rw[if_neg (j6 eF.lt)]at fB;have:=rI _ _ _ _ eF fB;simp at eW;omega
  ·rw[if_pos rfl]at fB;rw[if_neg (j6 hi'.lt)]at eW;have:=rI _ _ _ _ hi' eW;simp at fB;omega
  ·rw[if_neg (j6 eF.lt)]at fB;rw[if_neg (j6 hi'.lt)]at eW;exact h.inj i j b o c o' c' hi' eF eW fB
 ·rintro b ⟨i,o,c,hi,hb⟩ hz;simp only[cB]at hb;rcases bI i hi with rfl|hi'
  ·rw[if_pos rfl]at hb;simp at hb;have:=h.fY b hz;omega
  ·rw[if_neg (j6 hi'.lt)]at hb;exact h.nz b ⟨i,o,c,hi',hb⟩ hz
 ·intro b hb;have:=h.fY b hb;rw[hw];simp;omega
def ba.push{σ:St}{γ:Cx}(h:ba σ γ){w':World}{cur:Array Value}{t:TypeId}{cap:Nat}{ob:Ob}(hw:w'.heap=γ.w.heap.push (.cells cur t (0,0)))(a9:qq σ.aa γ.w γ.Z γ.blk 0 cap cur ob):
  ba { σ with aa:=σ.aa++[ob] } { γ with w:=w',blk:=cB γ.blk σ.aa.length (some (γ.w.heap.size,0,cap)) } :=
 h.zO hw λ_ _ _ hR hb hk=>a9.GL hR hb hk
def ba.blt{σ:St}{γ:Cx}(h:ba σ γ){i b o c:Nat}(hl:Live σ.aa i)(hb:γ.blk i=some (b,o,c)):b<γ.w.heap.size:=by
 obtain⟨x,hx,dZ⟩:=hl;have:=h.dQ i x hx;cases x with
 |gone=>exact absurd rfl dZ
 |var cells =>
  obtain⟨b',cap',m6,t',h1,h2,_⟩:=this;rw[hb]at h1;simp at h1;obtain⟨rfl,_⟩:=h1;exact(lT.1 h2).1
 |arr sz rows =>
  obtain⟨_,_,⟨h1,_⟩|⟨b',o',cap',m6,t',h1,h2,_⟩⟩:=this
  ·rw[hb]at h1;simp at h1
  ·rw[hb]at h1;simp at h1;obtain⟨rfl,_⟩:=h1;exact(lT.1 h2).1
 |mp ag L =>
  obtain⟨b',f',h1,h2,_⟩:=this;rw[hb]at h1;simp at h1;obtain⟨rfl,_⟩:=h1;exact(lT.1 h2).1
def Fr.zO{σ:St}{γ:Cx}{w':World}{x0:Obj}{cap:Nat}(ob:Ob)(hw:w'.heap=γ.w.heap.push x0)(h1:w'.os=γ.w.os)(h2:w'.tape=γ.w.tape)(h3:w'.output=γ.w.output):
  Fr σ.aa γ (σ.aa++[ob]) { γ with w:=w',blk:=cB γ.blk σ.aa.length (some (γ.w.heap.size,0,cap)) } where
 kl:=h1
 tape:=h2
 output:=h3
 size:=by rw[hw];simp
 cW:=λb hb _=>by simp only[hw,Array.getElem?_push];rw[if_neg Bv]
 z0:=λ_ h=>h
 z1:=λ_ h=>.inl h
 own:=by
  rintro b⟨i,o,c,⟨x,hx,dZ⟩,hb⟩;simp only[cB]at hb;split at hb
  ·simp at hb;right;omega
  ·rename_i cC;have hi:i<σ.aa.length:=by have:=(aN.1 hx).1;simp at this;omega
   rw[cG hi]at hx;exact .inl ⟨i,o,c,⟨x,hx,dZ⟩,hb⟩
 len:=Jy
 jn:=by
  rintro i hi⟨x,hx,dZ⟩;have hx0:=hx;rw[cG hi]at hx;exact⟨by simp[cB,j6 hi],x,x,hx,hx0,Ob.iC dZ⟩
def Fr.push{σ:St}{γ:Cx}{w':World}{cur:Array Value}{t:TypeId}{cap:Nat}(ob:Ob)(hw:w'.heap=γ.w.heap.push (.cells cur t (0,0)))(h1:w'.os=γ.w.os)(h2:w'.tape=γ.w.tape)(h3:w'.output=γ.w.output):
  Fr σ.aa γ (σ.aa++[ob]) { γ with w:=w',blk:=cB γ.blk σ.aa.length (some (γ.w.heap.size,0,cap)) }:=Fr.zO ob hw h1 h2 h3
def ba.kill{σ:St}{γ:Cx}(h:ba σ γ)(id:Nat):ba { σ with aa:=σ.aa.set id .gone } γ:=by
 have hR:∀ v cv,au σ.aa γ.w γ.Z γ.blk v cv->au (σ.aa.set id .gone) γ.w γ.Z γ.blk v cv:=λv cv hv =>
  hv.mono (λb hb=>⟨hb,rfl⟩) (λi o ho=>by
   have hi:i<σ.aa.length:=(aN.1 ho).1;rw[bT];by_cases kS:id=i
   ·left;simp[kS,hi]
   ·rw[if_neg kS];by_cases bS:o=.gone
    ·subst bS;exact .inl ho
    ·exact .inr ⟨rfl,o,ho,Ob.iC bS⟩)
 have bI:∀ i,Live (σ.aa.set id .gone) i->Live σ.aa i:=by
  rintro i⟨o,ho,bS⟩;rw[bT]at ho;split at ho
  ·split at ho<;>simp at ho;exact absurd ho.symm bS
  ·exact⟨o,ho,bS⟩
 refine⟨λk=>hR _ _ (h.ao k),?_,λi j b o c o' c' hi hj=>h.inj i j b o c o' c' (bI i hi) (bI j hj),?_,h.fY,λg=>hR _ _ (h.gl g)⟩
 ·intro i o ho;rw[bT]at ho;split at ho
  ·split at ho<;>simp at ho;subst ho;trivial
  ·exact(h.dQ i o ho).mono hR rfl (λ_ _ _ _=>rfl)
 ·rintro b ⟨i,o,c,hi,hb⟩;exact h.nz b ⟨i,o,c,bI i hi,hb⟩
def Fr.kill(os:List Ob)(γ:Cx)(id:Nat):Fr os γ (os.set id .gone) γ where
 kl:=rfl
 tape:=rfl
 output:=rfl
 size:=aM _
 cW:=λ_ _ _=>rfl
 z0:=λ_ h=>h
 z1:=λ_ h=>.inl h
 own:=by
  rintro b⟨i,o,c,⟨x,hx,dZ⟩,hb⟩;rw[bT]at hx;split at hx
  ·split at hx<;>simp at hx;exact absurd hx.symm dZ
  ·exact .inl ⟨i,o,c,⟨x,hx,dZ⟩,hb⟩
 len:=Jy
 jn:=by
  rintro i hi⟨x,hx,dZ⟩;have hx0:=hx;rw[bT]at hx;split at hx
  ·split at hx<;>simp at hx;exact absurd hx.symm dZ
  ·exact⟨rfl,x,x,hx,hx0,Ob.iC dZ⟩
def ba.CW{σ:St}{γ:Cx}(h:ba σ γ){id:Nat}{ob ob':Ob}(ho:σ.aa[id]?=some ob)(hg:ob≠.gone)(jC:ob.dj ob'){b o cap:Nat}(hb:γ.blk id=some (b,o,cap)){w':World}(mf:∀ k,k≠b->w'.heap[k]?=γ.w.heap[k]?)(aH:w'.heap.size=γ.w.heap.size)(a9:∀ os',(∀ v cv,au σ.aa γ.w γ.Z γ.blk v cv->au os' w' γ.Z γ.blk v cv)->vY os' w' γ.Z γ.blk id ob'):ba { σ with aa:=σ.aa.set id ob' } { γ with w:=w' }:=by
 have cO:id<σ.aa.length:=(aN.1 ho).1;have kq:Live σ.aa id:=⟨ob,ho,hg⟩;have bB:ob'≠.gone:=by intro e;subst e;cases ob<;>simp[Ob.dj]at jC
 have hR:∀ v cv,au σ.aa γ.w γ.Z γ.blk v cv->au (σ.aa.set id ob') w' γ.Z γ.blk v cv:=λv cv hv =>
  hv.mono (λz hz=>⟨hz,mf z (λe=>h.nz b ⟨id,o,cap,kq,hb⟩ (e▸hz))⟩) (λi x hx=>by
   rw[bT];by_cases kS:id=i
   ·subst kS;rw[ho]at hx;simp at hx;subst hx;right;refine⟨rfl,ob',by simp[cO],jC⟩
   ·rw[if_neg kS];by_cases bS:x=.gone
    ·subst bS;exact .inl hx
    ·exact .inr ⟨rfl,x,hx,Ob.iC bS⟩)
 have bI:∀ i,Live (σ.aa.set id ob') i->Live σ.aa i:=by
  rintro i⟨x,hx,dZ⟩;rw[bT]at hx;split at hx
  ·rename_i e;subst e;exact kq
  ·exact⟨x,hx,dZ⟩
 refine⟨λk=>hR _ _ (h.ao k),?_,λi j b o c o' c' hi hj=>h.inj i j b o c o' c' (bI i hi) (bI j hj),?_,λz hz=>by rw[aH];exact h.fY z hz,λg=>hR _ _ (h.gl g)⟩
 ·intro i x hx;rw[bT]at hx;by_cases kS:id=i
  ·subst kS;rw[if_pos rfl,if_pos cO]at hx;simp at hx;subst hx;exact a9 _ hR
  ·rw[if_neg kS]at hx;by_cases bS:x=.gone
   ·subst bS;trivial
   ·refine(h.dQ i x hx).mono hR rfl (λz y c hz=>mf z (λe=>kS ?_));subst e;exact h.inj id i z o cap y c kq ⟨x,hx,bS⟩ hb hz
 ·rintro z ⟨i,y,c,hi,hz⟩;exact h.nz z ⟨i,y,c,bI i hi,hz⟩
def ba.write{σ:St}{γ:Cx}(h:ba σ γ){id:Nat}{ob ob':Ob}(ho:σ.aa[id]?=some ob)(hg:ob≠.gone)(jC:ob.dj ob'){b o cap:Nat}(hb:γ.blk id=some (b,o,cap)){w':World}{cur:Array Value}{t:TypeId}(hw:w'.heap[b]?=some (.cells cur t (0,0)))(mf:∀ k,k≠b->w'.heap[k]?=γ.w.heap[k]?)(aH:w'.heap.size=γ.w.heap.size)(a9:qq σ.aa γ.w γ.Z γ.blk o cap cur ob'):ba { σ with aa:=σ.aa.set id ob' } { γ with w:=w' } :=
 h.CW ho hg jC hb mf aH λ_ hR=>a9.GL hR hb hw
def Fr.write{σ:St}{γ:Cx}{id:Nat}{ob:Ob}(ob':Ob)(ho:σ.aa[id]?=some ob)(hg:ob≠.gone)(jC:ob.dj ob'){b o cap:Nat}(hb:γ.blk id=some (b,o,cap)){w':World}(mf:∀ k,k≠b->w'.heap[k]?=γ.w.heap[k]?)(aH:w'.heap.size=γ.w.heap.size)(h1:w'.os=γ.w.os)(h2:w'.tape=γ.w.tape)(h3:w'.output=γ.w.output):
  Fr σ.aa γ (σ.aa.set id ob') { γ with w:=w' } where
 kl:=h1
 tape:=h2
 output:=h3
 size:=by simp[aH]
 cW:=λz _ lz=>mf z (λe=>lz ⟨id,o,cap,⟨ob,ho,hg⟩,e▸hb⟩)
 z0:=λ_ h=>h
 z1:=λ_ h=>.inl h
 own:=by
  rintro z⟨i,y,c,⟨x,hx,dZ⟩,hz⟩;rw[bT]at hx;split at hx
  ·rename_i e;subst e;exact .inl ⟨id,y,c,⟨ob,ho,hg⟩,hz⟩
  ·exact .inl ⟨i,y,c,⟨x,hx,dZ⟩,hz⟩
 len:=Jy
 jn:=by
  rintro i hi⟨x,hx,dZ⟩;have hx0:=hx;rw[bT]at hx;split at hx
  ·rename_i e;subst e;exact⟨rfl,ob,ob',ho,by rw[bT];simp[hi],jC⟩
  ·exact⟨rfl,x,x,hx,hx0,Ob.iC dZ⟩
end Go.Am
namespace Go.Am
structure Ty where
 kind:Nat
 size:Nat
 bytes:Nat
 elem:Nat
 len:Nat
 zero:Option (List Value)
 aJ:List (Nat×Nat×Nat)
def s8(P:Program)(t:TypeId):Nat:=match P.info? t with|some i=>i.size|none=>0
def ty(P:Program)(t:TypeId):Ty :=
 match P.info? t,P.underlying t with
 |some i,some d =>
  let base:Ty:={ kind:=0,size:=i.size,bytes:=i.bytes,elem:=0,len:=0,zero:=i.zero.map (·.cells.toList),aJ:=[] }
  match d with
  |.slice e=>{ base with kind:=1,elem:=e }
  |.array n e=>{ base with kind:=2,elem:=e,len:=n }
  |.struct fs=>{ base with kind:=3,aJ:=fs.toList.map λf=>(f.offset,f.type,s8 P f.type) }
  |.string=>{ base with kind:=4 }
  |.int _=>{ base with kind:=5 }
  |.bool=>{ base with kind:=6 }
  |.pointer e=>{ base with kind:=7,elem:=e }
  |.map _ e=>{ base with kind:=8,elem:=e }
  |.func _ _ _=>{ base with kind:=9 }
  |_=>base
 |_,_=>{ kind:=99,size:=0,bytes:=0,elem:=0,len:=0,zero:=none,aJ:=[] }
def Ty.isAgg(t:Ty):Bool:=t.kind==2||t.kind==3
def qw{P:Program}{t:TypeId}(h:(ty P t).kind≠99):∃i d,P.info? t=some i/\P.underlying t=some d/\(ty P t).size=i.size/\(ty P t).bytes=i.bytes/\(ty P t).zero=i.zero.map (·.cells.toList):=by
 unfold ty at h ⊢;cases hi:P.info? t with
 |none=>simp[hi]at h
 |some i =>
  cases hd:P.underlying t with
  |none=>simp[hi,hd]at h
  |some d =>
   refine⟨i,d,rfl,rfl,?_,?_,?_⟩<;>cases d<;>rfl
def pw{P:Program}{t:TypeId}(h:(ty P t).kind=1):P.underlying t=some (.slice (ty P t).elem):=by
 unfold ty at h ⊢;cases hi:P.info? t<;>cases hd:P.underlying t<;>simp[hi,hd]at h ⊢;rename_i i d;cases d<;>simp at h ⊢
def GJ{P:Program}{t:TypeId}(h:(ty P t).kind=2):P.underlying t=some (.array (ty P t).len (ty P t).elem):=by
 unfold ty at h ⊢;cases hi:P.info? t<;>cases hd:P.underlying t<;>simp[hi,hd]at h ⊢;rename_i i d;cases d<;>simp at h ⊢
def GG{P:Program}{t:TypeId}(h:(ty P t).kind=3):∃fs,P.underlying t=some (.struct fs)/\(ty P t).aJ=fs.toList.map λf=>(f.offset,f.type,s8 P f.type):=by
 unfold ty at h ⊢;cases hi:P.info? t<;>cases hd:P.underlying t<;>simp[hi,hd]at h ⊢;rename_i i d;cases d<;>simp at h ⊢
def Yh{P:Program}{t:TypeId}(h:(ty P t).kind=6):P.underlying t=some .bool:=by
 unfold ty at h;cases hi:P.info? t<;>cases hd:P.underlying t<;>simp[hi,hd]at h ⊢;rename_i i d;cases d<;>simp at h ⊢
def dD:Value->AV
 |.agg cs=>.agg (cs.toList.map .lit)
 |v=>.lit v
def ev(σ:St):Operand->AV
 |.tmp t=>σ.env t
 |.const v=>dD v
 |.func f=>.fn f []
 |.global g=>sM g
def St.put(σ:St)(dst:Option Tmp)(v:AV):St :=
 match dst with
 |some d=>{ σ with env:=iL σ.env d v }
 |none=>σ
def ca:AV->Bool
 |.lit v=>v.oneCell'
 |.tree ..|.bU _|.ref ..|.ptr ..|.fn ..|.fI ..|.dP ..=>true
 |_=>false
def cellsOf:AV->List AV
 |.agg cs=>cs
 |v=>[v]
def setCells(cells:List AV)(c:Nat):List AV->List AV
 |[]=>cells
 |v::vs=>setCells (cells.set c v) (c+1) vs
def kh(place:Nat->Option (Nat×Nat))(cells:List AV):List (Nat×AV)->Option (List AV)
 |[]=>some cells
 | (i,v)::rest =>
  match place i with
  |none=>none
  |some (off,size)=>if(cellsOf v).length=size/\off+size<=cells.length then kh place (setCells cells off (cellsOf v)) rest else none
def ki(sz:Nat):Nat->List AV->List (List AV)
 |0,_=>[]
 |n+1,cs=>cs.take sz::ki sz n (cs.drop sz)
def rowOf(σ:St)(id r:Nat):Option (List AV) :=
 match σ.aa[id]? with
 |some (.var cells)=>if r=0 then some cells else none
 |some (.arr _ rows)=>rows[r]?
 |_=>none
def lZ(σ:St)(id r:Nat)(row:List AV):St :=
 match σ.aa[id]? with
 |some (.var _)=>{ σ with aa:=σ.aa.set id (.var row) }
 |some (.arr sz rows)=>{ σ with aa:=σ.aa.set id (.arr sz (rows.set r row)) }
 |_=>σ
def kf(t:Ty)(cells:List AV)(c:Nat)(K:AV->Prop):Prop :=
 if t.isAgg then c+t.size<=cells.length/\K (.agg ((cells.drop c).take t.size))
 else match cells[c]? with
  |some v=>K v
  |none=>False
def mQ:List AV->Option (List Int)
 |[]=>some []
 |.lit (.int .i64 a)::r=>(mQ r).map (a::·)
 |_=>none
def od(P:Program)(t:TypeId)(n:Nat):Prop :=
 ∀ (w:World) (as bs:List Int),as.length=n->bs.length=n ->
  (Op.equalIn 10000 t (.agg (as.map (Value.int .i64)).toArray) (.agg (bs.map (Value.int .i64)).toArray)).run P w=.ok (decide (as=bs)) w
def sN(k:IntKind)(a b:Int):Int:=k.wrap ((BitVec.ofInt k.bits a &&& BitVec.ofInt k.bits b).toNat)
def PR(a b:Int):Int:=IntKind.i64.wrap ((BitVec.ofInt 64 a &&& BitVec.ofInt 64 b).toNat)
def N'(a b:Int):sN .i64 a b=PR a b:=by unfold sN PR;rfl
def rJ(k:IntKind)(a b:Int)(K:Value->Prop):Prop:=if k=.u64 then K (.int k (k.wrap (a*b))) else(k.min<=a*b/\a*b<=k.max)/\K (.int k (a*b))
def qj(k:IntKind)(a:Int)(K:Value->Prop):Prop:=if k=.u64 then K (.int k (k.wrap (-a))) else(k.min<=-a/\-a<=k.max)/\K (.int k (-a))
def M7{a b:Int}{K:Value->Prop}:rJ .i64 a b K=((IntKind.i64.min<=a*b/\a*b<=IntKind.i64.max)/\K (.int .i64 (a*b))):=rfl
def M8{a b:Int}{K:Value->Prop}:rJ .u64 a b K=K (.int .u64 (IntKind.u64.wrap (a*b))):=rfl
def M9{a:Int}{K:Value->Prop}:qj .i64 a K=((IntKind.i64.min<=-a/\-a<=IntKind.i64.max)/\K (.int .i64 (-a))):=rfl
def M'{a:Int}{K:Value->Prop}:qj .u64 a K=K (.int .u64 (IntKind.u64.wrap (-a))):=rfl
def fe(op:BinOp)(k:IntKind)(a b:Int)(K:Value->Prop):Prop :=
 match op with
 |.add=>(k.min<=a+b/\a+b<=k.max)/\K (.int k (a+b))
 |.sub=>(k.min<=a-b/\a-b<=k.max)/\K (.int k (a-b))
 |.mul=>rJ k a b K
 |.quo=>(0<=a/\0<b/\a<=k.max)/\K (.int k (a/b))
 |.rem=>b≠0/\K (.int k (a.tmod b))
 |.and=>K (.int k (sN k a b))
 |.shr=>(0<=b/\b.toNat<=k.bits)/\K (.int k (a/2^b.toNat))
 |.eql=>K (.bool (a==b))
 |.neq=>K (.bool (a != b))
 |.lss=>K (.bool (decide (a<b)))
 |.leq=>K (.bool (decide (a<=b)))
 |.gtr=>K (.bool (decide (a > b)))
 |.geq=>K (.bool (decide (a >= b)))
 |_=>False
def eG(t:Bool):AV->AV->AV
 |.lit (.bool x),.lit (.bool y)=>.lit (.bool (bif t then x else y))
 |a,b=>if t then a else b
def l4(σ:St):AV->Option (Nat×List (List AV))
 |.tree sz rows=>some (sz,rows)
 |.ref id sz off len =>
  match σ.aa[id]? with
  |some (.arr cg rows)=>if cg=sz then some (sz,(rows.drop off).take len) else none
  |_=>none
 |_=>none
def n8(σ:St)(sz:Nat):AV->Option (List (List AV)×St)
 |.lit (.slice none 0 0)=>some ([],σ)
 |.ref id cg off len =>
  match σ.aa[id]? with
  |some (.arr jo rows)=>if jo=cg/\cg=sz then some ((rows.drop off).take len,{ σ with aa:=σ.aa.set id .gone }) else none
  |_=>none
 |_=>none
end Go.Am
namespace Go.Am
variable (P:Program)
def dV(l:List Int):List (List Int×AV)->Nat->Option Nat
 |[],_=>none
 |p::r,i=>if p.1=l then some i else dV l r (i+1)
def kP(l:List Int)(L:List (List Int×AV)):Option AV:=(dV l L 0).bind λi=>(L[i]?).map (·.2)
def cS(l:List Int)(v:AV)(L:List (List Int×AV)):List (List Int×AV) :=
 match dV l L 0 with
 |some i=>L.set i (l,v)
 |none=>L++[(l,v)]
def rA(l:List Int)(L:List (List Int×AV)):Nat:=(dV l L 0).getD L.length
def l8(n:Nat)(v:AV)(L:List (List Int×AV)):List (List Int×AV):=L.set n ((L.getD n ([],.undef)).1,v)
def g8(P:Program)(t:TypeId)(ag:Nat):Prop:=∃ kt et,P.underlying t=some (.map kt et)/\∀ l:List Int,l.length=g9 ag ->
 (∀ e w,(Instr.checkKey e 10000 kt (kV ag l)).run P w=.ok () w)/\(∀ w,(Instr.keyThatStays (kV ag l) (kV ag l)).run P w=.ok (kV ag l) w) /\
 ∀ (f:Nat->Value) (L:List (List Int×AV)) w,(∀ p∈L,p.1.length=g9 ag)->(Instr.findKey kt (kV ag l) (cE (cP ag f L)).toList).run P w=.ok ((dV l L 0).map λi=>(i,f i)) w
def zeroV(P:Program)(t:TypeId):Option Value :=
 match P.info? t with
 |some i=>i.zero
 |none=>none
def vw(P:Program)(t:TypeId):Nat :=
 match P.underlying t with
 |some (.map kt _)=>if(ty P kt).isAgg then(ty P kt).size else 0
 |_=>0
def keyOf:AV->Option (Nat×List Int)
 |.lit (.int .i64 n)=>some (0,[n])
 |.agg cs=>(mQ cs).map λl=>(l.length,l)
 |_=>none
def jQ(σ:St):AV->Option (Nat×Nat×List (List Int×AV))
 |.dP id =>
  match σ.aa[id]? with
  |some (.mp ag L)=>some (id,ag,L)
  |_=>none
 |_=>none
def rB(s:ByteArray)(n:Nat):Int :=
 match s[n]? with
 |some b=>b.toNat
 |none=>0
def vx(P:Program)(t:TypeId):Bool :=
 match P.underlying t with
 |some (.interface _)=>true
 |some _=>false
 |none=>true
def bM (o:Oper) (σ:St) (K:St->Prop):Prop :=
  match o.op with
  | .move x | .assign x=>K (σ.put o.dst (ev σ x))
  | .pick c a b =>
    match ev σ c with
    | .lit (.bool t)=>K (σ.put o.dst (eG t (ev σ a) (ev σ b)))
    | _=>False
  | .alloc e =>
    (ty P e).kind≠99 /\
    match (ty P e).zero with
    | some z=>K (({ σ with aa:=σ.aa++[.var (z.map .lit)] }:St).put o.dst (.ptr σ.aa.length 0 0))
    | none=>False
  | .box _ x=>(cellsOf (ev σ x)).all ca=true/\K (({ σ with aa:=σ.aa++[.var (cellsOf (ev σ x))] }:St).put o.dst (.ptr σ.aa.length 0 0))
  | .build t parts =>
    match (ty P t).kind,(ty P t).zero with
    | 3,some z =>
      match kh (λi=>((ty P t).aJ[i]?).map λf=>(f.1,f.2.2)) (z.map .lit) (parts.toList.map λp=>(p.1,ev σ p.2)) with
      | some cs=>((parts.toList.all λp=>(cellsOf (ev σ p.2)).all ca)=true/\((ty P t).aJ.all λf=>decide (0<f.2.2))=true)/\K (σ.put o.dst (.agg cs))
      | none=>False
    | 2,some z =>
      match kh (λi=>some (i * (ty P (ty P t).elem).size,(ty P (ty P t).elem).size)) (z.map .lit) (parts.toList.map λp=>(p.1,ev σ p.2)) with
      | some cs=>((parts.toList.all λp=>(cellsOf (ev σ p.2)).all ca)=true/\(ty P (ty P t).elem).kind≠99)/\K (σ.put o.dst (.agg cs))
      | none=>False
    | _,_=>False
  | .buildSlice t len parts =>
    match (ty P t).kind,(ty P (ty P t).elem).zero with
    | 1,some z =>
      match kh (λi=>some (i * (ty P (ty P t).elem).size,(ty P (ty P t).elem).size)) ((List.range len).flatMap λ_=>z.map .lit) (parts.toList.map λp=>(p.1,ev σ p.2)) with
      | some cs=>((ty P (ty P t).elem).kind≠99/\0<(ty P (ty P t).elem).size/\z.length=(ty P (ty P t).elem).size/\len * (ty P (ty P t).elem).size<=16777216/\(parts.toList.all λp=>(cellsOf (ev σ p.2)).all ca)=true) /\
          K (({ σ with aa:=σ.aa++[.arr (ty P (ty P t).elem).size (ki (ty P (ty P t).elem).size len cs)] }:St).put o.dst (.ref σ.aa.length (ty P (ty P t).elem).size 0 len))
      | none=>False
    | _,_=>False
  | .load t a =>
    (ty P t).kind≠99 /\
    match ev σ a with
    | .ptr id r c =>
      match rowOf σ id r with
      | some row=>kf (ty P t) row c λv=>K (σ.put o.dst v)
      | none=>False
    | .bU cells=>kf (ty P t) cells 0 λv=>K (σ.put o.dst v)
    | _=>False
  | .store t a x =>
    (ty P t).kind≠99 /\
    match ev σ a with
    | .ptr id r c =>
      match rowOf σ id r with
      | some row=>((cellsOf (ev σ x)).length=(ty P t).size/\c+(ty P t).size<=row.length/\(cellsOf (ev σ x)).all ca=true)/\K ((lZ σ id r (setCells row c (cellsOf (ev σ x)))).put o.dst .undef)
      | none=>False
    | _=>False
  | .nilCheck x =>
    match ev σ x with
    | .ptr id r c =>
      match σ.aa[id]? with
      | some .gone=>False
      | some _=>K (σ.put o.dst (.ptr id r c))
      | none=>False
    | .bU cells=>K (σ.put o.dst (.bU cells))
    | _=>False
  | .binOp op t x y _ =>
    match ev σ x,ev σ y with
    | .lit (.int k a),.lit (.int k' b)=>k=k'/\fe op k a b λv=>K (σ.put o.dst (.lit v))
    | .lit (.bool a),.lit (.bool b) =>
      (ty P t).kind=6 /\
      match op with
      | .eql=>K (σ.put o.dst (.lit (.bool (a == b))))
      | .neq=>K (σ.put o.dst (.lit (.bool (a != b))))
      | _=>False
    | .tree _ rows,.lit (.slice none 0 0) =>
      ((ty P t).kind=1/\0<rows.length) /\
      match op with
      | .eql=>K (σ.put o.dst (.lit (.bool false)))
      | .neq=>K (σ.put o.dst (.lit (.bool true)))
      | _=>False
    | .lit (.slice a _ _),.lit (.slice none 0 0) =>
      (ty P t).kind=1 /\
      match op with
      | .eql=>K (σ.put o.dst (.lit (.bool a.isNone)))
      | .neq=>K (σ.put o.dst (.lit (.bool (!a.isNone))))
      | _=>False
    | .agg cs,.agg ds =>
      match mQ cs,mQ ds with
      | some as,some bs =>
        (od P t as.length/\bs.length=as.length/\P.eqGuardType P.depth t=false) /\
        match op with
        | .eql=>K (σ.put o.dst (.lit (.bool (decide (as=bs)))))
        | .neq=>K (σ.put o.dst (.lit (.bool (!decide (as=bs)))))
        | _=>False
      | _,_=>False
    | _,_=>False
  | .unOp op _ x =>
    match op,ev σ x with
    | .not,.lit (.bool b)=>K (σ.put o.dst (.lit (.bool !b)))
    | .neg,.lit (.int k a)=>qj k a λv=>K (σ.put o.dst (.lit v))
    | _,_=>False
  | .makeFunc fn first captured =>
    match fn with
    | .func f=>first.size=0/\K (σ.put o.dst (.fn f (captured.toList.map (ev σ))))
    | _=>False
  | .makeSlice t l c =>
    match (ty P t).kind,(ty P (ty P t).elem).zero,ev σ l,ev σ c with
    | 1,some z,.lit (.int k n),.lit (.int k' n') =>
      ((ty P (ty P t).elem).kind≠99/\0<(ty P (ty P t).elem).size/\z.length=(ty P (ty P t).elem).size/\n'=n/\0<=n/\n<=1099511627776/\(ty P (ty P t).elem).bytes<=128/\k=k) /\
        K (({ σ with aa:=σ.aa++[.arr (ty P (ty P t).elem).size (aD n.toNat (z.map .lit))] }:St).put o.dst (.ref σ.aa.length (ty P (ty P t).elem).size 0 n.toNat))/\k'=k'
    | _,_,_,_=>False
  | .slice t x lo hi mx =>
    (ty P t).kind=1/\(ty P (ty P t).elem).kind≠99/\mx=none /\
    match ev σ x with
    | .ref id sz off len =>
      match σ.aa[id]? with
      | some (.arr cg rows) =>
        cg=sz/\sz=(ty P (ty P t).elem).size /\
        match lo.map (ev σ),hi.map (ev σ) with
        | none,none=>K (σ.put o.dst (.ref id sz off len))
        | some (.lit (.int _ l)),none=>(0<=l/\l<=len/\rows.length=rows.length)/\K (σ.put o.dst (.ref id sz (off+l.toNat) (len - l.toNat)))
        | none,some (.lit (.int _ h))=>(0<=h/\h<=len)/\K (σ.put o.dst (.ref id sz off h.toNat))
        | some (.lit (.int _ l)),some (.lit (.int _ h))=>(0<=l/\l<=h/\h<=len)/\K (σ.put o.dst (.ref id sz (off+l.toNat) (h.toNat - l.toNat)))
        | _,_=>False
      | _=>False
    | .tree sz rows =>
        (rows≠[]->sz=(ty P (ty P t).elem).size) /\
        match lo.map (ev σ),hi.map (ev σ) with
        | none,none=>K (σ.put o.dst (.tree sz rows))
        | some (.lit (.int _ l)),none=>(0<=l/\l<=rows.length)/\K (σ.put o.dst (.tree sz (rows.drop l.toNat)))
        | none,some (.lit (.int _ h))=>(0<=h/\h<=rows.length)/\K (σ.put o.dst (.tree sz (rows.take h.toNat)))
        | some (.lit (.int _ l)),some (.lit (.int _ h))=>(0<=l/\l<=h/\h<=rows.length)/\K (σ.put o.dst (.tree sz ((rows.take h.toNat).drop l.toNat)))
        | _,_=>False
    | _=>False
  | .fieldAddr s x f =>
    match (ty P s).kind,(ty P s).aJ[f]? with
    | 3,some (off,_,size) =>
      0<size /\
      match ev σ x with
      | .ptr id r c =>
        match σ.aa[id]? with
        | some .gone=>False
        | some _=>K (σ.put o.dst (.ptr id r (c+off)))
        | none=>False
      | .bU cells=>K (σ.put o.dst (.bU (cells.drop off)))
      | _=>False
    | _,_=>False
  | .field s x f =>
    match (ty P s).kind,(ty P s).aJ[f]? with
    | 3,some (off,t,size) =>
      (ty P t).kind≠99/\size=(ty P t).size /\
      match ev σ x with
      | .agg cs=>if (ty P t).isAgg then off+size<=cs.length/\K (σ.put o.dst (.agg ((cs.drop off).take size))) else
          match cs[off]? with
          | some v=>K (σ.put o.dst v)
          | none=>False
      | _=>False
    | _,_=>False
  | .indexAddr t x i =>
    match (ty P t).kind,ev σ x,ev σ i with
    | 1,.ref id sz off len,.lit (.int _ n) =>
      match σ.aa[id]? with
      | some (.arr cg _)=>(cg=sz/\sz=(ty P (ty P t).elem).size/\(ty P (ty P t).elem).kind≠99/\0<=n/\n<len)/\K (σ.put o.dst (.ptr id (off+n.toNat) 0))
      | _=>False
    | 1,.tree sz rows,.lit (.int _ n)=>(sz=(ty P (ty P t).elem).size/\(ty P (ty P t).elem).kind≠99/\0<=n/\n<rows.length)/\K (σ.put o.dst (.bU (rows.getD n.toNat [])))
    | 2,.ptr id r c,.lit (.int _ n) =>
      match σ.aa[id]? with
      | some .gone=>False
      | some _=>((ty P (ty P t).elem).kind≠99/\0<=n/\n<(ty P t).len)/\K (σ.put o.dst (.ptr id r (c+n.toNat * (ty P (ty P t).elem).size)))
      | none=>False
    | 2,.bU cells,.lit (.int _ n)=>((ty P (ty P t).elem).kind≠99/\0<=n/\n<(ty P t).len)/\K (σ.put o.dst (.bU (cells.drop (n.toNat * (ty P (ty P t).elem).size))))
    | _,_,_=>False
  | .makeMap t r=>(r=none/\(ty P t).kind=8)/\K (({ σ with aa:=σ.aa++[.mp (vw P t) []] }:St).put o.dst (.dP σ.aa.length))
  | .lookup t x i ok =>
    match keyOf (ev σ i),jQ σ (ev σ x),zeroV P (ty P t).elem with
    | some (ag,l),some (_,gA,L),some z=>(g8 P t ag/\gA=ag/\l.length=g9 ag/\(ty P t).kind=8/\ok=false)/\K (σ.put o.dst ((kP l L).getD (.lit z)))
    | _,_,_=>False
  | .mapUpdate t m k x =>
    match keyOf (ev σ k),jQ σ (ev σ m) with
    | some (ag,l),some (id,gA,L)=>(g8 P t ag/\gA=ag/\l.length=g9 ag)/\K (({ σ with aa:=σ.aa.set id (.mp ag (cS l (ev σ x) L)) }:St).put o.dst .undef)
    | _,_=>False
  | .mapEntry t m k =>
    match keyOf (ev σ k),jQ σ (ev σ m),zeroV P (ty P t).elem with
    | some (ag,l),some (id,gA,L),some z=>(g8 P t ag/\gA=ag/\l.length=g9 ag/\(ty P t).kind=8) /\
      K (({ σ with aa:=σ.aa.set id (.mp ag (cS l ((kP l L).getD (.lit z)) L)) }:St).put o.dst (.bH [(kP l L).getD (.lit z),.lit (.int .i64 (rA l L:Nat))]))
    | _,_,_=>False
  | .entryStore _ m s x =>
    match ev σ s,jQ σ (ev σ m) with
    | .lit (.int .i64 n),some (id,ag,L)=>(0<=n/\n<L.length)/\K (({ σ with aa:=σ.aa.set id (.mp ag (l8 n.toNat (ev σ x) L)) }:St).put o.dst .undef)
    | _,_=>False
  | .index t x i =>
    match ev σ x,ev σ i with
    | .lit (.string s),.lit (.int _ n)=>(P.underlying t=some .string/\0<=n/\n<s.size)/\K (σ.put o.dst (.lit (.int .u8 (rB s n.toNat))))
    | _,_=>False
  | .makeInterface t x=>vx P t=false/\K (σ.put o.dst (.fI t (ev σ x)))
  | .typeAssert x _ asserted ok =>
    match ev σ x with
    | .fI t v=>(vx P asserted=false/\t=asserted/\ok=false)/\K (σ.put o.dst v)
    | _=>False
  | .extract x i =>
    match ev σ x with
    | .bH vs =>
      match vs[i]? with
      | some v=>K (σ.put o.dst v)
      | none=>False
    | _=>False
  | .call { callee:=.builtin .len,args,argTypes } =>
    match args.toList,argTypes.toList with
    | [x],[t] =>
      match ev σ x with
      | .ref id sz _ len =>
        (ty P t).kind=1 /\
        match σ.aa[id]? with
        | some (.arr cg _)=>cg=sz/\K (σ.put o.dst (.lit (.int .i64 len)))
        | _=>False
      | .tree _ rows=>(ty P t).kind=1/\K (σ.put o.dst (.lit (.int .i64 rows.length)))
      | .lit (.slice none 0 0)=>(ty P t).kind=1/\K (σ.put o.dst (.lit (.int .i64 0)))
      | .dP id =>
        (ty P t).kind=8 /\
        match σ.aa[id]? with
        | some (.mp _ L)=>K (σ.put o.dst (.lit (.int .i64 L.length)))
        | _=>False
      | _=>False
    | _,_=>False
  | .call { callee:=.builtin .append,args,argTypes } =>
    match args.toList,argTypes.toList with
    | [s,x],[t,t'] =>
      match (ty P t).kind,(ty P (ty P t).elem).zero,n8 σ (ty P (ty P t).elem).size (ev σ s),l4 σ (ev σ x) with
      | 1,some z,some (pre,σ1),some (sz,src) =>
        (t'=t/\(ty P (ty P t).elem).kind≠99/\sz=(ty P (ty P t).elem).size/\0<sz/\z.length=sz/\pre.length+src.length<=549755813888/\(ty P (ty P t).elem).bytes<=128/\(src.all λrow=>row.all ca)=true) /\
          K (({ σ1 with aa:=σ1.aa++[.arr sz (pre++src)] }:St).put o.dst (.ref σ1.aa.length sz 0 (pre.length+src.length)))
      | _,_,_,_=>False
    | _,_=>False
  | .call { callee:=.builtin .min,args,argTypes:=_ } =>
    match args.toList with
    | [x,y] =>
      match ev σ x,ev σ y with
      | .lit (.int k a),.lit (.int k' b)=>k=k'/\K (σ.put o.dst (.lit (.int k (min a b))))
      | _,_=>False
    | _=>False
  | .call { callee:=.builtin .max,args,argTypes:=_ } =>
    match args.toList with
    | [x,y] =>
      match ev σ x,ev σ y with
      | .lit (.int k a),.lit (.int k' b)=>k=k'/\K (σ.put o.dst (.lit (.int k (max a b))))
      | _,_=>False
    | _=>False
  | .call { callee:=.builtin .copy,args,argTypes } =>
    match args.toList,argTypes.toList with
    | [s,x],[t,_] =>
      match ev σ s,l4 σ (ev σ x) with
      | .ref id sz off len,some (cg,src) =>
        match σ.aa[id]? with
        | some (.arr jo rows) =>
          ((ty P t).kind=1/\(ty P (ty P t).elem).kind≠99/\cg=sz/\jo=sz/\sz=(ty P (ty P t).elem).size/\0<sz/\(src.all λrow=>row.all ca)=true) /\
            K (({ σ with aa:=σ.aa.set id (.arr sz (rows.take off++src.take (min src.length len)++rows.drop (off+min src.length len))) }:St).put o.dst (.lit (.int .i64 (min src.length len:Nat))))
        | _=>False
      | _,_=>False
    | _,_=>False
  | .call { callee:=.builtin .clear,args,argTypes } =>
    match args.toList,argTypes.toList with
    | [s],[t] =>
      match ev σ s,(ty P (ty P t).elem).zero with
      | .ref id sz off len,some z =>
        match σ.aa[id]? with
        | some (.arr cg rows) =>
          ((ty P t).kind=1/\(ty P (ty P t).elem).kind≠99/\cg=sz/\z.length=sz/\0<sz/\(z.all λu=>u.oneCell')=true) /\
            K (({ σ with aa:=σ.aa.set id (.arr sz (rows.take off++aD len (z.map AV.lit)++rows.drop (off+len))) }:St).put o.dst (.lit (.tuple #[])))
        | _=>False
      | _,_=>False
    | _,_=>False
  | .convert s d x =>
    match P.underlying d,ev σ x with
    | some (.int k),.lit (.int _ n)=>(P.underlying s).isSome=true/\K (σ.put o.dst (.lit (.int k (k.wrap n))))
    | _,_=>False
  | _=>False
end Go.Am

