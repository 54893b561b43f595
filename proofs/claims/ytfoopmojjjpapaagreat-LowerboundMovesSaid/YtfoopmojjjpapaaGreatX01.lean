import Derived.Test.YtfoopmojjjpapaaGreatX00
import Derived.Orders
import Derived.Laws.AppendOwn
import Derived.Laws.MakeOwn
import Derived.Laws.Slices
import Derived.Laws.Small
set_option linter.all false
set_option maxHeartbeats 0
set_option maxRecDepth 20000
open Nat renaming le_refl→bb,le_trans→rY,lt_of_lt_of_le→Cp,ne_of_lt→ns,lt_or_ge→dE
open List renaming getElem?_eq_some_iff→aR,getElem?_append_left→eB,getElem?_set→bY,replicate→aJ
open Array renaming getD_eq_getD_getElem?→ek,getElem?_eq_some_iff→mg
namespace Go.Am
inductive AV where
 |undef
 |lit (v:Value)
 |tree (sz:Nat) (rows:List (List AV))
 |cd (cells:List AV)
 |ref (id sz off len:Nat)
 |ptr (id r c:Nat)
 |agg (cs:List AV)
 |bu (vs:List AV)
 |fn (f:FuncId) (bk:List AV)
 |gZ (t:TypeId) (v:AV)
 |du (id:Nat)
 deriving Inhabited
abbrev N0(n:Int):AV:=.lit (.int .i64 n)
inductive Ob where
 |gone
 |var (cells:List AV)
 |arr (sz:Nat) (rows:List (List AV))
 |mp (ag:Nat) (L:List (List Int×AV))
 deriving Inhabited
structure St where
 env:Nat->AV
 aa:List Ob
def jd(e:Nat->AV)(d:Nat)(v:AV):Nat->AV:=λk=>if k=d then v else e k
def cellAt(rows:List (List AV))(r c:Nat):Option AV:=(rows[r]?).bind (·[c]?)
def cR(ents:List (Value×Value)):Array MapEntry:=(ents.mapIdx λi p=>(⟨p.1,p.2,i⟩:MapEntry)).toArray
def kV(ag:Nat)(l:List Int):Value:=if ag=0 then .int .i64 (l.headD 0) else .agg (l.map λn=>.int .i64 n).toArray
def jZ(ag:Nat):Nat:=if ag=0 then 1 else ag
def da(ag:Nat)(f:Nat->Value)(L:List (List Int×AV)):List (Value×Value):=L.mapIdx λj p=>(kV ag p.1,f j)
def Jg(ag:Nat)(f:Nat->Value)(g:AV->AV)(L:List (List Int×AV)):da ag f (L.map λp=>(p.1,g p.2))=da ag f L:=by
 unfold da;apply List.ext_getElem
 ·simp
 ·intros;simp
abbrev fX:=Nat->Option (Nat×Nat×Nat)
inductive gx(w:World)(Z:Nat->Prop):AV->Value->Prop where
 |lit (v:Value):gx w Z (.lit v) v
 |nil (sz cap:Nat) (a:Option Addr):gx w Z (.tree sz []) (.slice a 0 cap)
 |tree (sz:Nat) (rows:List (List AV)) (b o cap:Nat) (f:Nat->Nat->Value) (hz:Z b) (hr:∀ row∈rows,row.length=sz) (C3:rows.length<=cap)
   (hc:∀ r c x,cellAt rows r c=some x->w.cell? ⟨b,o+(r*sz+c),none⟩=some (f r c))
   (ht:∀ r c x,cellAt rows r c=some x->gx w Z x (f r c)):gx w Z (.tree sz rows) (.slice (some ⟨b,o,none⟩) rows.length cap)
inductive aw(os:List Ob)(w:World)(Z:Nat->Prop)(blk:fX):AV->Value->Prop where
 |undef (cv:Value):aw os w Z blk .undef cv
 |cG (v:AV) (cv:Value) (h:gx w Z v cv):aw os w Z blk v cv
 |cd (cells:List AV) (b o:Nat) (f:Nat->Value) (hz:Z b) (hc:∀ j x,cells[j]?=some x->w.cell? ⟨b,o+j,none⟩=some (f j))
   (ht:∀ j x,cells[j]?=some x->gx w Z x (f j)):aw os w Z blk (.cd cells) (.pointer (some ⟨b,o,none⟩))
 |kk (id sz off len:Nat) (cv:Value) (h:os[id]?=some .gone) (h1:cv.oneCell'=true):aw os w Z blk (.ref id sz off len) cv
 |mP (id r c:Nat) (cv:Value) (h:os[id]?=some .gone) (h1:cv.oneCell'=true):aw os w Z blk (.ptr id r c) cv
 |ref (id sz off len b o cap cap':Nat) (rows:List (List AV)) (h:os[id]?=some (.arr sz rows)) (hb:blk id=some (b,o,cap))
   (hl:off+len<=rows.length) (hc:off+cap'<=cap) (jt:len<=cap'):aw os w Z blk (.ref id sz off len) (.slice (some ⟨b,o+off*sz,none⟩) len cap')
 |lR (id sz:Nat) (h:os[id]?=some (.arr sz [])) (hb:blk id=none):aw os w Z blk (.ref id sz 0 0) (.slice none 0 0)
 |mo (id sz off b x:Nat) (bo:Nat×Nat) (rows:List (List AV)) (h:os[id]?=some (.arr sz rows)) (hb:blk id=some (b,bo)) (hl:off<=rows.length) :
   aw os w Z blk (.ref id sz off 0) (.slice (some ⟨b,x,none⟩) 0 0)
 |nA (id c b cap:Nat) (cells:List AV) (h:os[id]?=some (.var cells)) (hb:blk id=some (b,0,cap)):aw os w Z blk (.ptr id 0 c) (.pointer (some ⟨b,c,none⟩))
 |n9 (id r c sz b o cap:Nat) (rows:List (List AV)) (h:os[id]?=some (.arr sz rows)) (hb:blk id=some (b,o,cap)) :
   aw os w Z blk (.ptr id r c) (.pointer (some ⟨b,o+(r*sz+c),none⟩))
 |agg (cs:List AV) (a7:Array Value) (hs:a7.size=cs.length) (h:∀ j x,cs[j]?=some x->aw os w Z blk x (a7.getD j Go.undef)):aw os w Z blk (.agg cs) (.agg a7)
 |bu (cs:List AV) (a7:Array Value) (hs:a7.size=cs.length) (h:∀ j x,cs[j]?=some x->aw os w Z blk x (a7.getD j Go.undef)):aw os w Z blk (.bu cs) (.tuple a7)
 |fn (f:FuncId) (cs:List AV) (a7:Array Value) (hs:a7.size=cs.length) (h:∀ j x,cs[j]?=some x->aw os w Z blk x (a7.getD j Go.undef)) :
   aw os w Z blk (.fn f cs) (.func (.func f) #[] a7)
 |gZ (t:TypeId) (v:AV) (cv:Value) (h:aw os w Z blk v cv):aw os w Z blk (.gZ t v) (.iface t cv)
 |du (id b:Nat) (ag:Nat) (L:List (List Int×AV)) (h:os[id]?=some (.mp ag L)) (hb:blk id=some (b,0,0)):aw os w Z blk (.du id) (.map (some b))
 |p' (id:Nat) (cv:Value) (h:os[id]?=some .gone) (h1:cv.oneCell'=true):aw os w Z blk (.du id) cv
def zz (os:List Ob) (w:World) (Z:Nat->Prop) (blk:fX) (i:Nat):Ob->Prop
  | .gone=>True
  | .var cells=>∃ b cap cur t,blk i=some (b,0,cap)/\w.heap[b]?=some (.cells cur t (0,0))/\cur.size=cells.length /\
      ∀ c v,cells[c]?=some v->aw os w Z blk v (cur.getD c Go.undef)
  | .arr sz rows=>0<sz/\(∀ row∈rows,row.length=sz) /\
      ((blk i=none/\rows=[])\/∃ b o cap cur t,blk i=some (b,o,cap)/\w.heap[b]?=some (.cells cur t (0,0))/\o+cap * sz<=cur.size/\rows.length<=cap/\cap<=maxLen /\
        ∀ r c v,cellAt rows r c=some v->aw os w Z blk v (cur.getD (o+(r * sz+c)) Go.undef))
  | .mp ag L=>∃ b,∃ f:Nat->Value,blk i=some (b,0,0)/\w.heap[b]?=some (.map (cR (da ag f L)) L.length)/\(∀ p∈L,p.1.length=jZ ag)/\∀ (j:Nat) p,L[j]?=some p->aw os w Z blk p.2 (f j)
def yZ(g:Nat):AV :=
 match E7.lookup g with
 |some cs=>.cd (cs.map .lit)
 |none=>.undef
structure Cx where
 w:World
 tmps:Array Value
 Z:Nat->Prop
 blk:fX
def Live(os:List Ob)(i:Nat):Prop:=∃ o,os[i]?=some o/\o≠.gone
def oc(os:List Ob)(blk:fX)(b:Nat):Prop:=∃ i o cap,Live os i/\blk i=some (b,o,cap)
structure bg(σ:St)(γ:Cx):Prop where
 an:∀ k,aw σ.aa γ.w γ.Z γ.blk (σ.env k) (γ.tmps.getD k Go.undef)
 dF:∀ (i:Nat) o,σ.aa[i]?=some o->zz σ.aa γ.w γ.Z γ.blk i o
 inj:∀ i j b o c o' c',Live σ.aa i->Live σ.aa j->γ.blk i=some (b,o,c)->γ.blk j=some (b,o',c')->i=j
 nz:∀ b,oc σ.aa γ.blk b->¬ γ.Z b
 fZ:∀ b,γ.Z b->b<γ.w.heap.size
 gl:∀ g,aw σ.aa γ.w γ.Z γ.blk (yZ g) (.pointer (some ⟨g,0,none⟩))
def Ob.dT:Ob->Ob->Prop
 |.var a,.var b=>a.length=b.length
 |.arr s a,.arr s' b=>s=s'/\a.length=b.length
 |.mp a _,.mp b _=>a=b
 |_,_=>False
def Ob.jg{o:Ob}(h:o≠.gone):o.dT o:=by
 cases o<;>simp_all [Ob.dT]
def Ob.FV{a b c:Ob}(h:a.dT b)(k:b.dT c):a.dT c:=by
 cases a<;>cases b<;>cases c<;>simp_all [Ob.dT]
def Ob.Qo{a b:Ob}(h:a.dT b):a≠.gone/\b≠.gone:=by
 cases a<;>cases b<;>simp_all [Ob.dT]
structure Fr(Bn:List Ob)(pj:Cx)(os:List Ob)(γ:Cx):Prop where
 kJ:γ.w.os=pj.w.os
 tape:γ.w.tape=pj.w.tape
 output:γ.w.output=pj.w.output
 size:pj.w.heap.size<=γ.w.heap.size
 dV:∀ b,b<pj.w.heap.size->¬ oc Bn pj.blk b->γ.w.heap[b]?=pj.w.heap[b]?
 z0:∀ b,pj.Z b->γ.Z b
 z1:∀ b,γ.Z b->pj.Z b\/oc Bn pj.blk b\/pj.w.heap.size<=b
 own:∀ b,oc os γ.blk b->oc Bn pj.blk b\/pj.w.heap.size<=b
 len:Bn.length<=os.length
 dY:∀ i,i<Bn.length->Live os i->γ.blk i=pj.blk i/\∃ o o',Bn[i]?=some o/\os[i]?=some o'/\o.dT o'
 drawn:pj.w.drawn<=γ.w.drawn:=by first|exact bb _|(simp;done)|omega
def Fr.refl(os:List Ob)(γ:Cx):Fr os γ os γ :=
 ⟨rfl,rfl,rfl,bb _,λ_ _ _=>rfl,λ_ h=>h,λ_ h=>.inl h,λ_ h=>.inl h,bb _,λ_ _ ⟨o,ho,hg⟩=>⟨rfl,o,o,ho,ho,Ob.jg hg⟩,bb _⟩
def Fr.trans{a b c:List Ob}{x y z:Cx}(h:Fr a x b y)(k:Fr b y c z):Fr a x c z where
 kJ:=k.kJ.trans h.kJ
 tape:=k.tape.trans h.tape
 output:=k.output.trans h.output
 drawn:=rY h.drawn k.drawn
 size:=rY h.size k.size
 dV:=λn hn ho=>(k.dV n (Cp hn h.size) (λhw=>(h.own n hw).elim ho (λhl=>Ix))).trans (h.dV n hn ho)
 z0:=λn hn=>k.z0 n (h.z0 n hn)
 z1:=λn hn=>by
  rcases k.z1 n hn with h1|h1|h1
  ·exact h.z1 n h1
  ·rcases h.own n h1 with h2|h2
   ·exact .inr (.inl h2)
   ·exact .inr (.inr h2)
  ·exact .inr (.inr (rY h.size h1))
 own:=λn hn=>by
  rcases k.own n hn with h1|h1
  ·exact h.own n h1
  ·exact .inr (rY h.size h1)
 len:=rY h.len k.len
 dY:=λi hi hl=>by
  obtain⟨h1,o,o',ho,cE,hk⟩:=k.dY i (Cp hi h.len) hl;obtain⟨h3,x,x',hx,bS,ba⟩:=h.dY i hi ⟨o,ho,(Ob.Qo hk).1⟩;rw[ho]at bS;simp at bS;subst bS;exact⟨h1.trans h3,x,o',hx,cE,Ob.FV ba hk⟩
def JT{w w':World}{b o:Nat}(h:w'.heap[b]?=w.heap[b]?):w'.cell? ⟨b,o,none⟩=w.cell? ⟨b,o,none⟩:=by
 simp[World.cell?,h]
def gx.mono{w w':World}{Z Z':Nat->Prop}{v:AV}{cv:Value}(h:gx w Z v cv)(hz:∀ b,Z b->Z' b/\w'.heap[b]?=w.heap[b]?):gx w' Z' v cv:=by
 induction h with
 |lit v=>exact .lit v
 |nil sz cap a=>exact .nil sz cap a
 |tree sz rows b o cap f ss hr C3 hc _ ih =>
  exact .tree sz rows b o cap f (hz b ss).1 hr C3 (λr c x hx=>by rw[JT (hz b ss).2];exact hc r c x hx) ih
def aw.mono{os gp:List Ob}{w w':World}{Z Z':Nat->Prop}{blk jI:fX}{v:AV}{cv:Value}(h:aw os w Z blk v cv)(hz:∀ b,Z b->Z' b/\w'.heap[b]?=w.heap[b]?)(ho:∀ i o,os[i]?=some o->gp[i]?=some .gone\/(jI i=blk i/\∃ o',gp[i]?=some o'/\o.dT o')):aw gp w' Z' jI v cv:=by
 induction h with
 |undef cv=>exact .undef cv
 |cG v cv h=>exact .cG v cv (h.mono hz)
 |cd cells b o f ss hc ht =>
  exact .cd cells b o f (hz b ss).1 (λj x hx=>by rw[JT (hz b ss).2];exact hc j x hx) (λj x hx=>(ht j x hx).mono hz)
 |kk id sz off len cv h h1 =>
  rcases ho id _ h with h'|⟨_,o',_,hl⟩
  ·exact .kk id sz off len cv h' h1
  ·exact absurd hl (by simp[Ob.dT])
 |mP id r c cv h h1 =>
  rcases ho id _ h with h'|⟨_,o',_,hl⟩
  ·exact .mP id r c cv h' h1
  ·exact absurd hl (by simp[Ob.dT])
 |ref id sz off len b o cap cap' rows h hb hl hc jt =>
  rcases ho id _ h with h'|⟨fR,o',cE,hk⟩
  ·exact .kk _ _ _ _ _ h' rfl
  ·cases o'<;>simp[Ob.dT]at hk;obtain⟨rfl,hk⟩:=hk;exact .ref id sz off len b o cap cap' _ cE (fR.trans hb) Ix hc jt
 |lR id sz h hb =>
  rcases ho id _ h with h'|⟨fR,o',cE,hk⟩
  ·exact .kk _ _ _ _ _ h' rfl
  ·cases o'<;>simp[Ob.dT]at hk;obtain⟨rfl,hk⟩:=hk;have ba:=List.eq_nil_of_length_eq_zero hk.symm;subst ba;exact .lR id sz cE (fR.trans hb)
 |mo id sz off b x bo rows h hb hl =>
  rcases ho id _ h with h'|⟨fR,o',cE,hk⟩
  ·exact .kk _ _ _ _ _ h' rfl
  ·cases o'<;>simp[Ob.dT]at hk;obtain⟨rfl,hk⟩:=hk;exact .mo id sz off b x bo _ cE (fR.trans hb) Ix
 |nA id c b cap cells h hb =>
  rcases ho id _ h with h'|⟨fR,o',cE,hk⟩
  ·exact .mP _ _ _ _ h' rfl
  ·cases o'<;>simp[Ob.dT]at hk;exact .nA id c b cap _ cE (fR.trans hb)
 |n9 id r c sz b o cap rows h hb =>
  rcases ho id _ h with h'|⟨fR,o',cE,hk⟩
  ·exact .mP _ _ _ _ h' rfl
  ·cases o'<;>simp[Ob.dT]at hk;obtain⟨rfl,hk⟩:=hk;exact .n9 id r c sz b o cap _ cE (fR.trans hb)
 |agg cs a7 hs _ ih=>exact .agg cs a7 hs ih
 |bu cs a7 hs _ ih=>exact .bu cs a7 hs ih
 |fn f cs a7 hs _ ih=>exact .fn f cs a7 hs ih
 |gZ t v cv _ ih=>exact .gZ t v cv ih
 |du id b ag L h hb =>
  rcases ho id _ h with h'|⟨fR,o',cE,hk⟩
  ·exact .p' _ _ h' rfl
  ·cases o'<;>simp[Ob.dT]at hk;subst hk;exact .du id b _ _ cE (fR.trans hb)
 |p' id cv h h1 =>
  rcases ho id _ h with h'|⟨_,o',cE,hk⟩
  ·exact .p' _ _ h' h1
  ·cases o'<;>simp[Ob.dT]at hk
def xV{os gp:List Ob}{w w':World}{Z Z':Nat->Prop}{blk jI:fX}{g:Nat}{cv:Value}(h:aw os w Z blk (yZ g) cv)(hz:∀ b,Z b->Z' b/\w'.heap[b]?=w.heap[b]?):aw gp w' Z' jI (yZ g) cv:=by
 unfold yZ at h ⊢;generalize E7.lookup g=l at h ⊢;cases l with
 |none=>exact .undef _
 |some cs =>
  dsimp only at h ⊢;cases h with
  |cG _ _ h=>cases h
  |cd cells b o f ss hc ht=>exact .cd _ b o f (hz b ss).1 (λj x hx=>by rw[JT (hz b ss).2];exact hc j x hx) (λj x hx=>(ht j x hx).mono hz)
def Live.lt{os:List Ob}{i:Nat}(h:Live os i):i<os.length:=by
 obtain⟨o,ho,_⟩:=h;exact(aR.1 ho).1
def aw.same{os:List Ob}{w w':World}{Z:Nat->Prop}{blk:fX}{v:AV}{cv:Value}(h:aw os w Z blk v cv)(hw:w'.heap=w.heap):aw os w' Z blk v cv :=
 h.mono (λb hb=>⟨hb,by rw[hw]⟩) (λi o ho=>by
  by_cases hg:o=.gone
  ·subst hg;exact .inl ho
  ·exact .inr ⟨rfl,o,ho,Ob.jg hg⟩)
def zz.mono{os gp:List Ob}{w w':World}{Z Z':Nat->Prop}{blk jI:fX}{i:Nat}{o:Ob}(h:zz os w Z blk i o)(hR:∀ v cv,aw os w Z blk v cv->aw gp w' Z' jI v cv)(hb:jI i=blk i)(hk:∀ b o c,blk i=some (b,o,c)->w'.heap[b]?=w.heap[b]?):zz gp w' Z' jI i o:=by
 cases o with
 |gone=>trivial
 |var cells =>
  obtain⟨b,cap,cur,t,h1,h2,h3,h4⟩:=h;exact⟨b,cap,cur,t,hb.trans h1,(hk _ _ _ h1).trans h2,h3,λc v hv=>hR _ _ (h4 c v hv)⟩
 |arr sz rows =>
  obtain⟨h0,hr,h⟩:=h;refine⟨h0,hr,?_⟩;rcases h with⟨h1,h2⟩|⟨b,o,cap,cur,t,h1,h2,h3,h4,h5,h6⟩
  ·exact .inl ⟨hb.trans h1,h2⟩
  ·exact .inr ⟨b,o,cap,cur,t,hb.trans h1,(hk _ _ _ h1).trans h2,h3,h4,h5,λr c v hv=>hR _ _ (h6 r c v hv)⟩
 |mp ag L =>
  obtain⟨b,f,h1,h2,h3,h4⟩:=h;exact⟨b,f,hb.trans h1,(hk _ _ _ h1).trans h2,h3,λj p hp=>hR _ _ (h4 j p hp)⟩
def bg.put{σ:St}{γ:Cx}(h:bg σ γ)(d:Nat)(hd:d<γ.tmps.size){v:AV}{cv:Value}(hv:aw σ.aa γ.w γ.Z γ.blk v cv):
  bg { σ with env:=jd σ.env d v } { γ with tmps:=γ.tmps.setIfInBounds d cv } where
 an:=λk=>by
  simp only[jd];by_cases hk:k=d
  ·subst hk;simp[ek,hd];exact hv
  ·simp only[hk,if_false,ek,Array.getElem?_setIfInBounds_ne (Ne.symm hk)];have:=h.an k;simpa [ek] using this
 dF:=h.dF
 inj:=h.inj
 nz:=h.nz
 fZ:=h.fZ
 gl:=h.gl
def bg.Jn{σ:St}{γ:Cx}(h:bg σ γ){w':World}(hw:w'.heap=γ.w.heap):bg σ { γ with w:=w' } where
 an:=λk=>(h.an k).same hw
 dF:=λi o ho=>(h.dF i o ho).mono (λv cv hv=>hv.same hw) rfl (λb _ _ _=>by rw[hw])
 inj:=h.inj
 nz:=h.nz
 fZ:=λb hb=>by have:=h.fZ b hb;simpa [hw] using this
 gl:=λg=>(h.gl g).same hw
theorem Fr.Jn{a b:List Ob}{x y:Cx}(h:Fr a x b y){w':World}(hw:w'.heap=y.w.heap)(h1:w'.os=y.w.os)(h2:w'.tape=y.w.tape)(h3:w'.output=y.w.output)(h4:y.w.drawn<=w'.drawn:=by first|exact Nat.le_refl _|(simp;done)|omega):
  Fr a x b { y with w:=w' } :=
 h.trans ⟨h1,h2,h3,by simp[hw],fun _ _ _=>by simp[hw],fun _ h=>h,fun _ h=>.inl h,fun _ h=>.inl h,Nat.le_refl _,fun _ _ ⟨o,ho,hg⟩=>⟨rfl,o,o,ho,ho,Ob.jg hg⟩,h4⟩
def Fr.put{a b:List Ob}{x y:Cx}(h:Fr a x b y)(t:Array Value):Fr a x b { y with tmps:=t }:=⟨h.kJ,h.tape,h.output,h.size,h.dV,h.z0,h.z1,h.own,h.len,h.dY,h.drawn⟩
def c6(blk:fX)(n:Nat)(x:Option (Nat×Nat×Nat)):fX:=λi=>if i=n then x else blk i
def sF(os:List Ob)(w:World)(Z:Nat->Prop)(blk:fX)(o cap:Nat)(cur:Array Value):Ob->Prop
 |.gone=>True
 |.var cells=>o=0/\cur.size=cells.length/\∀ c v,cells[c]?=some v->aw os w Z blk v (cur.getD c Go.undef)
 |.arr sz rows=>0<sz/\(∀ row∈rows,row.length=sz)/\o+cap*sz<=cur.size/\rows.length<=cap/\cap<=maxLen /\
    ∀ r c v,cellAt rows r c=some v->aw os w Z blk v (cur.getD (o+(r*sz+c)) Go.undef)
 |.mp _ _=>False
def sF.JS{os gp:List Ob}{w w':World}{Z Z':Nat->Prop}{blk jI:fX}{i b o cap:Nat}{cur:Array Value}{t:TypeId}{ob:Ob}(h:sF os w Z blk o cap cur ob)(hR:∀ v cv,aw os w Z blk v cv->aw gp w' Z' jI v cv)(hb:jI i=some (b,o,cap))(hk:w'.heap[b]?=some (.cells cur t (0,0))):zz gp w' Z' jI i ob:=by
 cases ob with
 |gone=>trivial
 |var cells =>
  obtain⟨h0,h1,h2⟩:=h;subst h0;exact⟨b,cap,cur,t,hb,hk,h1,λc v hv=>hR _ _ (h2 c v hv)⟩
 |arr sz rows =>
  obtain⟨h0,h1,h2,h3,h4,h5⟩:=h;exact⟨h0,h1,.inr ⟨b,o,cap,cur,t,hb,hk,h2,h3,h4,λr c v hv=>hR _ _ (h5 r c v hv)⟩⟩
 |mp ag L=>exact h.elim
def bg.CS{σ:St}{γ:Cx}(h:bg σ γ){w':World}{x:Obj}{cap:Nat}{ob:Ob}(hw:w'.heap=γ.w.heap.push x)(bI:∀ gp w' jI,(∀ v cv,aw σ.aa γ.w γ.Z γ.blk v cv->aw gp w' γ.Z jI v cv)->jI σ.aa.length=some (γ.w.heap.size,0,cap)->w'.heap[γ.w.heap.size]?=some x->zz gp w' γ.Z jI σ.aa.length ob):
  bg { σ with aa:=σ.aa++[ob] } { γ with w:=w',blk:=c6 γ.blk σ.aa.length (some (γ.w.heap.size,0,cap)) }:=by
 have a6:∀ b,b<γ.w.heap.size->w'.heap[b]?=γ.w.heap[b]?:=λb hb=>by
  rw[hw,Array.getElem?_push,if_neg Ix]
 have hR:∀ v cv,aw σ.aa γ.w γ.Z γ.blk v cv->aw (σ.aa++[ob]) w' γ.Z (c6 γ.blk σ.aa.length (some (γ.w.heap.size,0,cap))) v cv:=λv cv hv =>
  hv.mono (λb hb=>⟨hb,a6 b (h.fZ b hb)⟩) (λi o ho=>by
   have hi:i<σ.aa.length:=(aR.1 ho).1;have cE:(σ.aa++[ob])[i]?=some o:=by rw[eB hi];exact ho
   by_cases cD:o=.gone
   ·subst cD;exact .inl cE
   ·exact .inr ⟨by simp[c6,ns hi],o,cE,Ob.jg cD⟩)
 have bL:∀ i,Live (σ.aa++[ob]) i->i=σ.aa.length\/Live σ.aa i:=by
  rintro i⟨o,ho,cD⟩;rcases dE i σ.aa.length with hi|hi
  ·rw[eB hi]at ho;exact .inr ⟨o,ho,cD⟩
  ·left;have:=(aR.1 ho).1;simp at this;omega
 have wP:∀ i b o c,Live σ.aa i->γ.blk i=some (b,o,c)->b<γ.w.heap.size:=by
  rintro i b o c⟨x,hx,eF⟩hb;have:=h.dF i x hx;cases x with
  |gone=>exact absurd rfl eF
  |var cells =>
   obtain⟨b',cap',kO,t',h1,h2,_⟩:=this;rw[hb]at h1;simp at h1;obtain⟨rfl,_⟩:=h1;exact(mg.1 h2).1
  |arr sz rows =>
   obtain⟨_,_,⟨h1,_⟩|⟨b',o',cap',kO,t',h1,h2,_⟩⟩:=this
   ·rw[hb]at h1;simp at h1
   ·rw[hb]at h1;simp at h1;obtain⟨rfl,_⟩:=h1;exact(mg.1 h2).1
  |mp ag L =>
   obtain⟨b',f',h1,h2,_⟩:=this;rw[hb]at h1;simp at h1;obtain⟨rfl,_⟩:=h1;exact(mg.1 h2).1
 refine⟨λk=>hR _ _ (h.an k),?_,?_,?_,?_,λg=>hR _ _ (h.gl g)⟩
 ·intro i o ho;rcases dE i σ.aa.length with hi|hi
  ·have cE:σ.aa[i]?=some o:=by rw[eB hi]at ho;exact ho
   by_cases cD:o=.gone
   ·subst cD;trivial
   ·refine(h.dF i o cE).mono hR (by simp[c6,ns hi]) (λb x c hb=>a6 b (wP i b x c ⟨o,cE,cD⟩ hb))
  ·have aq:i=σ.aa.length:=by
    have:=(aR.1 ho).1;simp at this;omega
   subst aq;simp at ho;subst ho;exact bI _ _ _ hR (by simp[c6]) (by rw[hw];simp)
 ·intro i j b o c o' c' hi hj fY gM;simp only[c6]at fY gM;rcases bL i hi with rfl|aq<;>rcases bL j hj with rfl|fe
  ·rfl
  ·rw[if_pos rfl]at fY;rw[if_neg (ns fe.lt)]at gM;have:=wP _ _ _ _ fe gM;simp at fY;omega
  ·rw[if_pos rfl]at gM;rw[if_neg (ns aq.lt)]at fY;have:=wP _ _ _ _ aq fY;simp at gM;omega
  ·rw[if_neg (ns fe.lt)]at gM;rw[if_neg (ns aq.lt)]at fY;exact h.inj i j b o c o' c' aq fe fY gM
 ·rintro b ⟨i,o,c,hi,hb⟩ hz;simp only[c6]at hb;rcases bL i hi with rfl|aq
  ·rw[if_pos rfl]at hb;simp at hb;have:=h.fZ b hz;omega
  ·rw[if_neg (ns aq.lt)]at hb;exact h.nz b ⟨i,o,c,aq,hb⟩ hz
 ·intro b hb;have:=h.fZ b hb;rw[hw];simp;omega
def bg.push{σ:St}{γ:Cx}(h:bg σ γ){w':World}{cur:Array Value}{t:TypeId}{cap:Nat}{ob:Ob}(hw:w'.heap=γ.w.heap.push (.cells cur t (0,0)))(bI:sF σ.aa γ.w γ.Z γ.blk 0 cap cur ob):
  bg { σ with aa:=σ.aa++[ob] } { γ with w:=w',blk:=c6 γ.blk σ.aa.length (some (γ.w.heap.size,0,cap)) } :=
 h.CS hw λ_ _ _ hR hb hk=>bI.JS hR hb hk
def bg.blt{σ:St}{γ:Cx}(h:bg σ γ){i b o c:Nat}(hl:Live σ.aa i)(hb:γ.blk i=some (b,o,c)):b<γ.w.heap.size:=by
 obtain⟨x,hx,eF⟩:=hl;have:=h.dF i x hx;cases x with
 |gone=>exact absurd rfl eF
 |var cells =>
  obtain⟨b',cap',kO,t',h1,h2,_⟩:=this;rw[hb]at h1;simp at h1;obtain⟨rfl,_⟩:=h1;exact(mg.1 h2).1
 |arr sz rows =>
  obtain⟨_,_,⟨h1,_⟩|⟨b',o',cap',kO,t',h1,h2,_⟩⟩:=this
  ·rw[hb]at h1;simp at h1
  ·rw[hb]at h1;simp at h1;obtain⟨rfl,_⟩:=h1;exact(mg.1 h2).1
 |mp ag L =>
  obtain⟨b',f',h1,h2,_⟩:=this;rw[hb]at h1;simp at h1;obtain⟨rfl,_⟩:=h1;exact(mg.1 h2).1
theorem Fr.CS{σ:St}{γ:Cx}{w':World}{x0:Obj}{cap:Nat}(ob:Ob)(hw:w'.heap=γ.w.heap.push x0)(h1:w'.os=γ.w.os)(h2:w'.tape=γ.w.tape)(h3:w'.output=γ.w.output)(h4:γ.w.drawn<=w'.drawn:=by first|exact Nat.le_refl _|(simp;done)|omega):
  Fr σ.aa γ (σ.aa++[ob]) { γ with w:=w',blk:=c6 γ.blk σ.aa.length (some (γ.w.heap.size,0,cap)) } where
 kJ:=h1
 tape:=h2
 output:=h3
 drawn:=h4
 size:=by rw[hw];simp
 dV:=fun b hb _=>by simp only[hw,Array.getElem?_push];rw[if_neg (by omega)]
 z0:=fun _ h=>h
 z1:=fun _ h=>.inl h
 own:=by
  rintro b⟨i,o,c,⟨x,hx,eF⟩,hb⟩;simp only[c6]at hb;split at hb
  ·simp at hb;right;omega
  ·rename_i cA;have hi:i<σ.aa.length:=by have:=(List.getElem?_eq_some_iff.1 hx).1;simp at this;omega
   rw[List.getElem?_append_left hi]at hx;exact .inl ⟨i,o,c,⟨x,hx,eF⟩,hb⟩
 len:=by simp
 dY:=by
  rintro i hi⟨x,hx,eF⟩;have hx0:=hx;rw[List.getElem?_append_left hi]at hx;exact⟨by simp[c6,Nat.ne_of_lt hi],x,x,hx,hx0,Ob.jg eF⟩
theorem Fr.push{σ:St}{γ:Cx}{w':World}{cur:Array Value}{t:TypeId}{cap:Nat}(ob:Ob)(hw:w'.heap=γ.w.heap.push (.cells cur t (0,0)))(h1:w'.os=γ.w.os)(h2:w'.tape=γ.w.tape)(h3:w'.output=γ.w.output)(h4:γ.w.drawn<=w'.drawn:=by first|exact Nat.le_refl _|(simp;done)|omega):
  Fr σ.aa γ (σ.aa++[ob]) { γ with w:=w',blk:=c6 γ.blk σ.aa.length (some (γ.w.heap.size,0,cap)) }:=Fr.CS ob hw h1 h2 h3 h4
def bg.kill{σ:St}{γ:Cx}(h:bg σ γ)(id:Nat):bg { σ with aa:=σ.aa.set id .gone } γ:=by
 have hR:∀ v cv,aw σ.aa γ.w γ.Z γ.blk v cv->aw (σ.aa.set id .gone) γ.w γ.Z γ.blk v cv:=λv cv hv =>
  hv.mono (λb hb=>⟨hb,rfl⟩) (λi o ho=>by
   have hi:i<σ.aa.length:=(aR.1 ho).1;rw[bY];by_cases mS:id=i
   ·left;simp[mS,hi]
   ·rw[if_neg mS];by_cases cD:o=.gone
    ·subst cD;exact .inl ho
    ·exact .inr ⟨rfl,o,ho,Ob.jg cD⟩)
 have bL:∀ i,Live (σ.aa.set id .gone) i->Live σ.aa i:=by
  rintro i⟨o,ho,cD⟩;rw[bY]at ho;split at ho
  ·split at ho<;>simp at ho;exact absurd ho.symm cD
  ·exact⟨o,ho,cD⟩
 refine⟨λk=>hR _ _ (h.an k),?_,λi j b o c o' c' hi hj=>h.inj i j b o c o' c' (bL i hi) (bL j hj),?_,h.fZ,λg=>hR _ _ (h.gl g)⟩
 ·intro i o ho;rw[bY]at ho;split at ho
  ·split at ho<;>simp at ho;subst ho;trivial
  ·exact(h.dF i o ho).mono hR rfl (λ_ _ _ _=>rfl)
 ·rintro b ⟨i,o,c,hi,hb⟩;exact h.nz b ⟨i,o,c,bL i hi,hb⟩
def Fr.kill(os:List Ob)(γ:Cx)(id:Nat):Fr os γ (os.set id .gone) γ where
 kJ:=rfl
 tape:=rfl
 output:=rfl
 size:=bb _
 dV:=λ_ _ _=>rfl
 z0:=λ_ h=>h
 z1:=λ_ h=>.inl h
 own:=by
  rintro b⟨i,o,c,⟨x,hx,eF⟩,hb⟩;rw[bY]at hx;split at hx
  ·split at hx<;>simp at hx;exact absurd hx.symm eF
  ·exact .inl ⟨i,o,c,⟨x,hx,eF⟩,hb⟩
 len:=Iy
 dY:=by
  rintro i hi⟨x,hx,eF⟩;have hx0:=hx;rw[bY]at hx;split at hx
  ·split at hx<;>simp at hx;exact absurd hx.symm eF
  ·exact⟨rfl,x,x,hx,hx0,Ob.jg eF⟩
def bg.FI{σ:St}{γ:Cx}(h:bg σ γ){id:Nat}{ob ob':Ob}(ho:σ.aa[id]?=some ob)(hg:ob≠.gone)(jK:ob.dT ob'){b o cap:Nat}(hb:γ.blk id=some (b,o,cap)){w':World}(mu:∀ k,k≠b->w'.heap[k]?=γ.w.heap[k]?)(aN:w'.heap.size=γ.w.heap.size)(bI:∀ gp,(∀ v cv,aw σ.aa γ.w γ.Z γ.blk v cv->aw gp w' γ.Z γ.blk v cv)->zz gp w' γ.Z γ.blk id ob'):bg { σ with aa:=σ.aa.set id ob' } { γ with w:=w' }:=by
 have bO:id<σ.aa.length:=(aR.1 ho).1;have j3:Live σ.aa id:=⟨ob,ho,hg⟩;have su:ob'≠.gone:=by intro e;subst e;cases ob<;>simp[Ob.dT]at jK
 have hR:∀ v cv,aw σ.aa γ.w γ.Z γ.blk v cv->aw (σ.aa.set id ob') w' γ.Z γ.blk v cv:=λv cv hv =>
  hv.mono (λz hz=>⟨hz,mu z (λe=>h.nz b ⟨id,o,cap,j3,hb⟩ (e▸hz))⟩) (λi x hx=>by
   rw[bY];by_cases mS:id=i
   ·subst mS;rw[ho]at hx;simp at hx;subst hx;right;refine⟨rfl,ob',by simp[bO],jK⟩
   ·rw[if_neg mS];by_cases cD:x=.gone
    ·subst cD;exact .inl hx
    ·exact .inr ⟨rfl,x,hx,Ob.jg cD⟩)
 have bL:∀ i,Live (σ.aa.set id ob') i->Live σ.aa i:=by
  rintro i⟨x,hx,eF⟩;rw[bY]at hx;split at hx
  ·rename_i e;subst e;exact j3
  ·exact⟨x,hx,eF⟩
 refine⟨λk=>hR _ _ (h.an k),?_,λi j b o c o' c' hi hj=>h.inj i j b o c o' c' (bL i hi) (bL j hj),?_,λz hz=>by rw[aN];exact h.fZ z hz,λg=>hR _ _ (h.gl g)⟩
 ·intro i x hx;rw[bY]at hx;by_cases mS:id=i
  ·subst mS;rw[if_pos rfl,if_pos bO]at hx;simp at hx;subst hx;exact bI _ hR
  ·rw[if_neg mS]at hx;by_cases cD:x=.gone
   ·subst cD;trivial
   ·refine(h.dF i x hx).mono hR rfl (λz y c hz=>mu z (λe=>mS ?_));subst e;exact h.inj id i z o cap y c j3 ⟨x,hx,cD⟩ hb hz
 ·rintro z ⟨i,y,c,hi,hz⟩;exact h.nz z ⟨i,y,c,bL i hi,hz⟩
def bg.write{σ:St}{γ:Cx}(h:bg σ γ){id:Nat}{ob ob':Ob}(ho:σ.aa[id]?=some ob)(hg:ob≠.gone)(jK:ob.dT ob'){b o cap:Nat}(hb:γ.blk id=some (b,o,cap)){w':World}{cur:Array Value}{t:TypeId}(hw:w'.heap[b]?=some (.cells cur t (0,0)))(mu:∀ k,k≠b->w'.heap[k]?=γ.w.heap[k]?)(aN:w'.heap.size=γ.w.heap.size)(bI:sF σ.aa γ.w γ.Z γ.blk o cap cur ob'):bg { σ with aa:=σ.aa.set id ob' } { γ with w:=w' } :=
 h.FI ho hg jK hb mu aN λ_ hR=>bI.JS hR hb hw
theorem Fr.write{σ:St}{γ:Cx}{id:Nat}{ob:Ob}(ob':Ob)(ho:σ.aa[id]?=some ob)(hg:ob≠.gone)(jK:ob.dT ob'){b o cap:Nat}(hb:γ.blk id=some (b,o,cap)){w':World}(mu:∀ k,k≠b->w'.heap[k]?=γ.w.heap[k]?)(aN:w'.heap.size=γ.w.heap.size)(h1:w'.os=γ.w.os)(h2:w'.tape=γ.w.tape)(h3:w'.output=γ.w.output)(h4:γ.w.drawn<=w'.drawn:=by first|exact Nat.le_refl _|(simp;done)|omega):
  Fr σ.aa γ (σ.aa.set id ob') { γ with w:=w' } where
 kJ:=h1
 tape:=h2
 output:=h3
 drawn:=h4
 size:=by simp[aN]
 dV:=fun z _ qf=>mu z (fun e=>qf ⟨id,o,cap,⟨ob,ho,hg⟩,e▸hb⟩)
 z0:=fun _ h=>h
 z1:=fun _ h=>.inl h
 own:=by
  rintro z⟨i,y,c,⟨x,hx,eF⟩,hz⟩;rw[List.getElem?_set]at hx;split at hx
  ·rename_i e;subst e;exact .inl ⟨id,y,c,⟨ob,ho,hg⟩,hz⟩
  ·exact .inl ⟨i,y,c,⟨x,hx,eF⟩,hz⟩
 len:=by simp
 dY:=by
  rintro i hi⟨x,hx,eF⟩;have hx0:=hx;rw[List.getElem?_set]at hx;split at hx
  ·rename_i e;subst e;exact⟨rfl,ob,ob',ho,by rw[List.getElem?_set];simp[hi],jK⟩
  ·exact⟨rfl,x,x,hx,hx0,Ob.jg eF⟩
end Go.Am
namespace Go.Am
structure Ty where
 kind:Nat
 size:Nat
 bytes:Nat
 elem:Nat
 len:Nat
 zero:Option (List Value)
 aM:List (Nat×Nat×Nat)
def wS(P:Program)(t:TypeId):Nat:=match P.info? t with|some i=>i.size|none=>0
def ty(P:Program)(t:TypeId):Ty :=
 match P.info? t,P.underlying t with
 |some i,some d =>
  let base:Ty:={ kind:=0,size:=i.size,bytes:=i.bytes,elem:=0,len:=0,zero:=i.zero.map (·.cells.toList),aM:=[] }
  match d with
  |.slice e=>{ base with kind:=1,elem:=e }
  |.array n e=>{ base with kind:=2,elem:=e,len:=n }
  |.struct fs=>{ base with kind:=3,aM:=fs.toList.map λf=>(f.offset,f.type,wS P f.type) }
  |.string=>{ base with kind:=4 }
  |.int _=>{ base with kind:=5 }
  |.bool=>{ base with kind:=6 }
  |.pointer e=>{ base with kind:=7,elem:=e }
  |.map _ e=>{ base with kind:=8,elem:=e }
  |.func _ _ _=>{ base with kind:=9 }
  |_=>base
 |_,_=>{ kind:=99,size:=0,bytes:=0,elem:=0,len:=0,zero:=none,aM:=[] }
def Ty.isAgg(t:Ty):Bool:=t.kind==2||t.kind==3
def uf{P:Program}{t:TypeId}(h:(ty P t).kind≠99):∃i d,P.info? t=some i/\P.underlying t=some d/\(ty P t).size=i.size/\(ty P t).bytes=i.bytes/\(ty P t).zero=i.zero.map (·.cells.toList):=by
 unfold ty at h ⊢;cases hi:P.info? t with
 |none=>simp[hi]at h
 |some i =>
  cases hd:P.underlying t with
  |none=>simp[hi,hd]at h
  |some d =>
   refine⟨i,d,rfl,rfl,?_,?_,?_⟩<;>cases d<;>rfl
def ud{P:Program}{t:TypeId}(h:(ty P t).kind=1):P.underlying t=some (.slice (ty P t).elem):=by
 unfold ty at h ⊢;cases hi:P.info? t<;>cases hd:P.underlying t<;>simp[hi,hd]at h ⊢;rename_i i d;cases d<;>simp at h ⊢
def JL{P:Program}{t:TypeId}(h:(ty P t).kind=2):P.underlying t=some (.array (ty P t).len (ty P t).elem):=by
 unfold ty at h ⊢;cases hi:P.info? t<;>cases hd:P.underlying t<;>simp[hi,hd]at h ⊢;rename_i i d;cases d<;>simp at h ⊢
def JJ{P:Program}{t:TypeId}(h:(ty P t).kind=3):∃fs,P.underlying t=some (.struct fs)/\(ty P t).aM=fs.toList.map λf=>(f.offset,f.type,wS P f.type):=by
 unfold ty at h ⊢;cases hi:P.info? t<;>cases hd:P.underlying t<;>simp[hi,hd]at h ⊢;rename_i i d;cases d<;>simp at h ⊢
def adt{P:Program}{t:TypeId}(h:(ty P t).kind=6):P.underlying t=some .bool:=by
 unfold ty at h;cases hi:P.info? t<;>cases hd:P.underlying t<;>simp[hi,hd]at h ⊢;rename_i i d;cases d<;>simp at h ⊢
def ef:Value->AV
 |.agg cs=>.agg (cs.toList.map .lit)
 |v=>.lit v
def ev(σ:St):Operand->AV
 |.tmp t=>σ.env t
 |.const v=>ef v
 |.func f=>.fn f []
 |.global g=>yZ g
def St.put(σ:St)(dst:Option Tmp)(v:AV):St :=
 match dst with
 |some d=>{ σ with env:=jd σ.env d v }
 |none=>σ
def cV:AV->Bool
 |.lit v=>v.oneCell'
 |.tree ..|.cd _|.ref ..|.ptr ..|.fn ..|.gZ ..|.du ..=>true
 |_=>false
def cellsOf:AV->List AV
 |.agg cs=>cs
 |v=>[v]
def setCells(cells:List AV)(c:Nat):List AV->List AV
 |[]=>cells
 |v::vs=>setCells (cells.set c v) (c+1) vs
def mh(place:Nat->Option (Nat×Nat))(cells:List AV):List (Nat×AV)->Option (List AV)
 |[]=>some cells
 | (i,v)::rest =>
  match place i with
  |none=>none
  |some (off,size)=>if(cellsOf v).length=size/\off+size<=cells.length then mh place (setCells cells off (cellsOf v)) rest else none
def mj(sz:Nat):Nat->List AV->List (List AV)
 |0,_=>[]
 |n+1,cs=>cs.take sz::mj sz n (cs.drop sz)
def rowOf(σ:St)(id r:Nat):Option (List AV) :=
 match σ.aa[id]? with
 |some (.var cells)=>if r=0 then some cells else none
 |some (.arr _ rows)=>rows[r]?
 |_=>none
def nV(σ:St)(id r:Nat)(row:List AV):St :=
 match σ.aa[id]? with
 |some (.var _)=>{ σ with aa:=σ.aa.set id (.var row) }
 |some (.arr sz rows)=>{ σ with aa:=σ.aa.set id (.arr sz (rows.set r row)) }
 |_=>σ
def ml(t:Ty)(cells:List AV)(c:Nat)(K:AV->Prop):Prop :=
 if t.isAgg then c+t.size<=cells.length/\K (.agg ((cells.drop c).take t.size))
 else match cells[c]? with
  |some v=>K v
  |none=>False
def oY:List AV->Option (List Int)
 |[]=>some []
 |.lit (.int .i64 a)::r=>(oY r).map (a::·)
 |_=>none
def vg(P:Program)(t:TypeId)(n:Nat):Prop :=
 ∀ (w:World) (as bs:List Int),as.length=n->bs.length=n ->
  (Op.equalIn 10000 t (.agg (as.map (Value.int .i64)).toArray) (.agg (bs.map (Value.int .i64)).toArray)).run P w=.ok (decide (as=bs)) w
def Bm(k:IntKind)(a b:Int):Int:=k.wrap ((BitVec.ofInt k.bits a &&& BitVec.ofInt k.bits b).toNat)
def Qp(a b:Int):Int:=IntKind.i64.wrap ((BitVec.ofInt 64 a &&& BitVec.ofInt 64 b).toNat)
def Qq(a b:Int):Bm .i64 a b=Qp a b:=by unfold Bm Qp;rfl
def vq(k:IntKind)(a b:Int)(K:Value->Prop):Prop:=if k=.u64 then K (.int k (k.wrap (a*b))) else(k.min<=a*b/\a*b<=k.max)/\K (.int k (a*b))
def tQ(k:IntKind)(a:Int)(K:Value->Prop):Prop:=if k=.u64 then K (.int k (k.wrap (-a))) else(k.min<=-a/\-a<=k.max)/\K (.int k (-a))
def Qr{a b:Int}{K:Value->Prop}:vq .i64 a b K=((IntKind.i64.min<=a*b/\a*b<=IntKind.i64.max)/\K (.int .i64 (a*b))):=rfl
def Qs{a b:Int}{K:Value->Prop}:vq .u64 a b K=K (.int .u64 (IntKind.u64.wrap (a*b))):=rfl
def Qt{a:Int}{K:Value->Prop}:tQ .i64 a K=((IntKind.i64.min<=-a/\-a<=IntKind.i64.max)/\K (.int .i64 (-a))):=rfl
def Qu{a:Int}{K:Value->Prop}:tQ .u64 a K=K (.int .u64 (IntKind.u64.wrap (-a))):=rfl
def gy(op:BinOp)(k:IntKind)(a b:Int)(K:Value->Prop):Prop :=
 match op with
 |.add=>(k.min<=a+b/\a+b<=k.max)/\K (.int k (a+b))
 |.sub=>(k.min<=a-b/\a-b<=k.max)/\K (.int k (a-b))
 |.mul=>vq k a b K
 |.quo=>(0<=a/\0<b/\a<=k.max)/\K (.int k (a/b))
 |.rem=>b≠0/\K (.int k (a.tmod b))
 |.and=>K (.int k (Bm k a b))
 |.shr=>(0<=b/\b.toNat<=k.bits)/\K (.int k (a/2^b.toNat))
 |.eql=>K (.bool (a==b))
 |.neq=>K (.bool (a != b))
 |.lss=>K (.bool (decide (a<b)))
 |.leq=>K (.bool (decide (a<=b)))
 |.gtr=>K (.bool (decide (a > b)))
 |.geq=>K (.bool (decide (a >= b)))
 |_=>False
def fP(t:Bool):AV->AV->AV
 |.lit (.bool x),.lit (.bool y)=>.lit (.bool (bif t then x else y))
 |a,b=>if t then a else b
def nw(σ:St):AV->Option (Nat×List (List AV))
 |.tree sz rows=>some (sz,rows)
 |.ref id sz off len =>
  match σ.aa[id]? with
  |some (.arr cX rows)=>if cX=sz then some (sz,(rows.drop off).take len) else none
  |_=>none
 |_=>none
def k0(σ:St)(sz:Nat):AV->Option (List (List AV)×St)
 |.lit (.slice none 0 0)=>some ([],σ)
 |.ref id cX off len =>
  match σ.aa[id]? with
  |some (.arr kK rows)=>if kK=cX/\cX=sz then some ((rows.drop off).take len,{ σ with aa:=σ.aa.set id .gone }) else none
  |_=>none
 |_=>none
end Go.Am
namespace Go.Am
variable (P:Program)
def ic(l:List Int):List (List Int×AV)->Nat->Option Nat
 |[],_=>none
 |p::r,i=>if p.1=l then some i else ic l r (i+1)
def mn(l:List Int)(L:List (List Int×AV)):Option AV:=(ic l L 0).bind λi=>(L[i]?).map (·.2)
def eT(l:List Int)(v:AV)(L:List (List Int×AV)):List (List Int×AV) :=
 match ic l L 0 with
 |some i=>L.set i (l,v)
 |none=>L++[(l,v)]
def AY(l:List Int)(L:List (List Int×AV)):Nat:=(ic l L 0).getD L.length
def pY(n:Nat)(v:AV)(L:List (List Int×AV)):List (List Int×AV):=L.set n ((L.getD n ([],.undef)).1,v)
def jb(P:Program)(t:TypeId)(ag:Nat):Prop:=∃ kt et,P.underlying t=some (.map kt et)/\∀ l:List Int,l.length=jZ ag ->
 (∀ e w,(Instr.checkKey e 10000 kt (kV ag l)).run P w=.ok () w)/\(∀ w,(Instr.keyThatStays (kV ag l) (kV ag l)).run P w=.ok (kV ag l) w) /\
 ∀ (f:Nat->Value) (L:List (List Int×AV)) w,(∀ p∈L,p.1.length=jZ ag)->(Instr.findKey kt (kV ag l) (cR (da ag f L)).toList).run P w=.ok ((ic l L 0).map λi=>(i,f i)) w
def zeroV(P:Program)(t:TypeId):Option Value :=
 match P.info? t with
 |some i=>i.zero
 |none=>none
def y0(P:Program)(t:TypeId):Nat :=
 match P.underlying t with
 |some (.map kt _)=>if(ty P kt).isAgg then(ty P kt).size else 0
 |_=>0
def keyOf:AV->Option (Nat×List Int)
 |.lit (.int .i64 n)=>some (0,[n])
 |.agg cs=>(oY cs).map λl=>(l.length,l)
 |_=>none
def lK(σ:St):AV->Option (Nat×Nat×List (List Int×AV))
 |.du id =>
  match σ.aa[id]? with
  |some (.mp ag L)=>some (id,ag,L)
  |_=>none
 |_=>none
def IQ(s:ByteArray)(n:Nat):Int :=
 match s[n]? with
 |some b=>b.toNat
 |none=>0
def y7(P:Program)(t:TypeId):Bool :=
 match P.underlying t with
 |some (.interface _)=>true
 |some _=>false
 |none=>true
def bW (o:Oper) (σ:St) (K:St->Prop):Prop :=
  match o.op with
  | .move x | .assign x=>K (σ.put o.dst (ev σ x))
  | .pick c a b =>
    match ev σ c with
    | .lit (.bool t)=>K (σ.put o.dst (fP t (ev σ a) (ev σ b)))
    | _=>False
  | .alloc e =>
    (ty P e).kind≠99 /\
    match (ty P e).zero with
    | some z=>K (({ σ with aa:=σ.aa++[.var (z.map .lit)] }:St).put o.dst (.ptr σ.aa.length 0 0))
    | none=>False
  | .box _ x=>(cellsOf (ev σ x)).all cV=true/\K (({ σ with aa:=σ.aa++[.var (cellsOf (ev σ x))] }:St).put o.dst (.ptr σ.aa.length 0 0))
  | .build t parts =>
    match (ty P t).kind,(ty P t).zero with
    | 3,some z =>
      match mh (λi=>((ty P t).aM[i]?).map λf=>(f.1,f.2.2)) (z.map .lit) (parts.toList.map λp=>(p.1,ev σ p.2)) with
      | some cs=>((parts.toList.all λp=>(cellsOf (ev σ p.2)).all cV)=true/\((ty P t).aM.all λf=>decide (0<f.2.2))=true)/\K (σ.put o.dst (.agg cs))
      | none=>False
    | 2,some z =>
      match mh (λi=>some (i * (ty P (ty P t).elem).size,(ty P (ty P t).elem).size)) (z.map .lit) (parts.toList.map λp=>(p.1,ev σ p.2)) with
      | some cs=>((parts.toList.all λp=>(cellsOf (ev σ p.2)).all cV)=true/\(ty P (ty P t).elem).kind≠99)/\K (σ.put o.dst (.agg cs))
      | none=>False
    | _,_=>False
  | .buildSlice t len parts =>
    match (ty P t).kind,(ty P (ty P t).elem).zero with
    | 1,some z =>
      match mh (λi=>some (i * (ty P (ty P t).elem).size,(ty P (ty P t).elem).size)) ((List.range len).flatMap λ_=>z.map .lit) (parts.toList.map λp=>(p.1,ev σ p.2)) with
      | some cs=>((ty P (ty P t).elem).kind≠99/\0<(ty P (ty P t).elem).size/\z.length=(ty P (ty P t).elem).size/\len * (ty P (ty P t).elem).size<=16777216/\(parts.toList.all λp=>(cellsOf (ev σ p.2)).all cV)=true) /\
          K (({ σ with aa:=σ.aa++[.arr (ty P (ty P t).elem).size (mj (ty P (ty P t).elem).size len cs)] }:St).put o.dst (.ref σ.aa.length (ty P (ty P t).elem).size 0 len))
      | none=>False
    | _,_=>False
  | .load t a =>
    (ty P t).kind≠99 /\
    match ev σ a with
    | .ptr id r c =>
      match rowOf σ id r with
      | some row=>ml (ty P t) row c λv=>K (σ.put o.dst v)
      | none=>False
    | .cd cells=>ml (ty P t) cells 0 λv=>K (σ.put o.dst v)
    | _=>False
  | .store t a x =>
    (ty P t).kind≠99 /\
    match ev σ a with
    | .ptr id r c =>
      match rowOf σ id r with
      | some row=>((cellsOf (ev σ x)).length=(ty P t).size/\c+(ty P t).size<=row.length/\(cellsOf (ev σ x)).all cV=true)/\K ((nV σ id r (setCells row c (cellsOf (ev σ x)))).put o.dst .undef)
      | none=>False
    | _=>False
  | .nilCheck x =>
    match ev σ x with
    | .ptr id r c =>
      match σ.aa[id]? with
      | some .gone=>False
      | some _=>K (σ.put o.dst (.ptr id r c))
      | none=>False
    | .cd cells=>K (σ.put o.dst (.cd cells))
    | _=>False
  | .binOp op t x y _ =>
    match ev σ x,ev σ y with
    | .lit (.int k a),.lit (.int k' b)=>k=k'/\gy op k a b λv=>K (σ.put o.dst (.lit v))
    | .lit (.bool a),.lit (.bool b) =>
      (ty P t).kind=6 /\
      match op with
      | .eql=>K (σ.put o.dst (.lit (.bool (a == b))))
      | .neq=>K (σ.put o.dst (.lit (.bool (a != b))))
      | _=>False
    | .tree _ rows,.lit (.slice none 0 0) =>
      ((ty P t).kind=1/\0<rows.length) /\
      match op with
      | .eql=>K (σ.put o.dst (.lit (.bool false)))
      | .neq=>K (σ.put o.dst (.lit (.bool true)))
      | _=>False
    | .lit (.slice a _ _),.lit (.slice none 0 0) =>
      (ty P t).kind=1 /\
      match op with
      | .eql=>K (σ.put o.dst (.lit (.bool a.isNone)))
      | .neq=>K (σ.put o.dst (.lit (.bool (!a.isNone))))
      | _=>False
    | .agg cs,.agg ds =>
      match oY cs,oY ds with
      | some as,some bs =>
        (vg P t as.length/\bs.length=as.length/\P.eqGuardType P.depth t=false) /\
        match op with
        | .eql=>K (σ.put o.dst (.lit (.bool (decide (as=bs)))))
        | .neq=>K (σ.put o.dst (.lit (.bool (!decide (as=bs)))))
        | _=>False
      | _,_=>False
    | _,_=>False
  | .unOp op _ x =>
    match op,ev σ x with
    | .not,.lit (.bool b)=>K (σ.put o.dst (.lit (.bool !b)))
    | .neg,.lit (.int k a)=>tQ k a λv=>K (σ.put o.dst (.lit v))
    | _,_=>False
  | .makeFunc fn first captured =>
    match fn with
    | .func f=>first.size=0/\K (σ.put o.dst (.fn f (captured.toList.map (ev σ))))
    | _=>False
  | .makeSlice t l c =>
    match (ty P t).kind,(ty P (ty P t).elem).zero,ev σ l,ev σ c with
    | 1,some z,.lit (.int k n),.lit (.int k' n') =>
      ((ty P (ty P t).elem).kind≠99/\0<(ty P (ty P t).elem).size/\z.length=(ty P (ty P t).elem).size/\n'=n/\0<=n/\n<=1099511627776/\(ty P (ty P t).elem).bytes<=128/\k=k) /\
        K (({ σ with aa:=σ.aa++[.arr (ty P (ty P t).elem).size (aJ n.toNat (z.map .lit))] }:St).put o.dst (.ref σ.aa.length (ty P (ty P t).elem).size 0 n.toNat))/\k'=k'
    | _,_,_,_=>False
  | .slice t x lo hi mx =>
    (ty P t).kind=1/\(ty P (ty P t).elem).kind≠99/\mx=none /\
    match ev σ x with
    | .ref id sz off len =>
      match σ.aa[id]? with
      | some (.arr cX rows) =>
        cX=sz/\sz=(ty P (ty P t).elem).size /\
        match lo.map (ev σ),hi.map (ev σ) with
        | none,none=>K (σ.put o.dst (.ref id sz off len))
        | some (.lit (.int _ l)),none=>(0<=l/\l<=len/\rows.length=rows.length)/\K (σ.put o.dst (.ref id sz (off+l.toNat) (len - l.toNat)))
        | none,some (.lit (.int _ h))=>(0<=h/\h<=len)/\K (σ.put o.dst (.ref id sz off h.toNat))
        | some (.lit (.int _ l)),some (.lit (.int _ h))=>(0<=l/\l<=h/\h<=len)/\K (σ.put o.dst (.ref id sz (off+l.toNat) (h.toNat - l.toNat)))
        | _,_=>False
      | _=>False
    | .tree sz rows =>
        (rows≠[]->sz=(ty P (ty P t).elem).size) /\
        match lo.map (ev σ),hi.map (ev σ) with
        | none,none=>K (σ.put o.dst (.tree sz rows))
        | some (.lit (.int _ l)),none=>(0<=l/\l<=rows.length)/\K (σ.put o.dst (.tree sz (rows.drop l.toNat)))
        | none,some (.lit (.int _ h))=>(0<=h/\h<=rows.length)/\K (σ.put o.dst (.tree sz (rows.take h.toNat)))
        | some (.lit (.int _ l)),some (.lit (.int _ h))=>(0<=l/\l<=h/\h<=rows.length)/\K (σ.put o.dst (.tree sz ((rows.take h.toNat).drop l.toNat)))
        | _,_=>False
    | _=>False
  | .fieldAddr s x f =>
    match (ty P s).kind,(ty P s).aM[f]? with
    | 3,some (off,_,size) =>
      0<size /\
      match ev σ x with
      | .ptr id r c =>
        match σ.aa[id]? with
        | some .gone=>False
        | some _=>K (σ.put o.dst (.ptr id r (c+off)))
        | none=>False
      | .cd cells=>K (σ.put o.dst (.cd (cells.drop off)))
      | _=>False
    | _,_=>False
  | .field s x f =>
    match (ty P s).kind,(ty P s).aM[f]? with
    | 3,some (off,t,size) =>
      (ty P t).kind≠99/\size=(ty P t).size /\
      match ev σ x with
      | .agg cs=>if (ty P t).isAgg then off+size<=cs.length/\K (σ.put o.dst (.agg ((cs.drop off).take size))) else
          match cs[off]? with
          | some v=>K (σ.put o.dst v)
          | none=>False
      | _=>False
    | _,_=>False
  | .indexAddr t x i =>
    match (ty P t).kind,ev σ x,ev σ i with
    | 1,.ref id sz off len,.lit (.int _ n) =>
      match σ.aa[id]? with
      | some (.arr cX _)=>(cX=sz/\sz=(ty P (ty P t).elem).size/\(ty P (ty P t).elem).kind≠99/\0<=n/\n<len)/\K (σ.put o.dst (.ptr id (off+n.toNat) 0))
      | _=>False
    | 1,.tree sz rows,.lit (.int _ n)=>(sz=(ty P (ty P t).elem).size/\(ty P (ty P t).elem).kind≠99/\0<=n/\n<rows.length)/\K (σ.put o.dst (.cd (rows.getD n.toNat [])))
    | 2,.ptr id r c,.lit (.int _ n) =>
      match σ.aa[id]? with
      | some .gone=>False
      | some _=>((ty P (ty P t).elem).kind≠99/\0<=n/\n<(ty P t).len)/\K (σ.put o.dst (.ptr id r (c+n.toNat * (ty P (ty P t).elem).size)))
      | none=>False
    | 2,.cd cells,.lit (.int _ n)=>((ty P (ty P t).elem).kind≠99/\0<=n/\n<(ty P t).len)/\K (σ.put o.dst (.cd (cells.drop (n.toNat * (ty P (ty P t).elem).size))))
    | _,_,_=>False
  | .makeMap t r=>(r=none/\(ty P t).kind=8)/\K (({ σ with aa:=σ.aa++[.mp (y0 P t) []] }:St).put o.dst (.du σ.aa.length))
  | .lookup t x i ok =>
    match keyOf (ev σ i),lK σ (ev σ x),zeroV P (ty P t).elem with
    | some (ag,l),some (_,iJ,L),some z=>(jb P t ag/\iJ=ag/\l.length=jZ ag/\(ty P t).kind=8/\ok=false)/\K (σ.put o.dst ((mn l L).getD (.lit z)))
    | _,_,_=>False
  | .mapUpdate t m k x =>
    match keyOf (ev σ k),lK σ (ev σ m) with
    | some (ag,l),some (id,iJ,L)=>(jb P t ag/\iJ=ag/\l.length=jZ ag)/\K (({ σ with aa:=σ.aa.set id (.mp ag (eT l (ev σ x) L)) }:St).put o.dst .undef)
    | _,_=>False
  | .mapEntry t m k =>
    match keyOf (ev σ k),lK σ (ev σ m),zeroV P (ty P t).elem with
    | some (ag,l),some (id,iJ,L),some z=>(jb P t ag/\iJ=ag/\l.length=jZ ag/\(ty P t).kind=8) /\
      K (({ σ with aa:=σ.aa.set id (.mp ag (eT l ((mn l L).getD (.lit z)) L)) }:St).put o.dst (.bu [(mn l L).getD (.lit z),.lit (.int .i64 (AY l L:Nat))]))
    | _,_,_=>False
  | .entryStore _ m s x =>
    match ev σ s,lK σ (ev σ m) with
    | .lit (.int .i64 n),some (id,ag,L)=>(0<=n/\n<L.length)/\K (({ σ with aa:=σ.aa.set id (.mp ag (pY n.toNat (ev σ x) L)) }:St).put o.dst .undef)
    | _,_=>False
  | .index t x i =>
    match ev σ x,ev σ i with
    | .lit (.string s),.lit (.int _ n)=>(P.underlying t=some .string/\0<=n/\n<s.size)/\K (σ.put o.dst (.lit (.int .u8 (IQ s n.toNat))))
    | _,_=>False
  | .makeInterface t x=>y7 P t=false/\K (σ.put o.dst (.gZ t (ev σ x)))
  | .typeAssert x _ asserted ok =>
    match ev σ x with
    | .gZ t v=>(y7 P asserted=false/\t=asserted/\ok=false)/\K (σ.put o.dst v)
    | _=>False
  | .extract x i =>
    match ev σ x with
    | .bu vs =>
      match vs[i]? with
      | some v=>K (σ.put o.dst v)
      | none=>False
    | _=>False
  | .call { callee:=.builtin .len,args,argTypes } =>
    match args.toList,argTypes.toList with
    | [x],[t] =>
      match ev σ x with
      | .ref id sz _ len =>
        (ty P t).kind=1 /\
        match σ.aa[id]? with
        | some (.arr cX _)=>cX=sz/\K (σ.put o.dst (.lit (.int .i64 len)))
        | _=>False
      | .tree _ rows=>(ty P t).kind=1/\K (σ.put o.dst (.lit (.int .i64 rows.length)))
      | .lit (.slice none 0 0)=>(ty P t).kind=1/\K (σ.put o.dst (.lit (.int .i64 0)))
      | .du id =>
        (ty P t).kind=8 /\
        match σ.aa[id]? with
        | some (.mp _ L)=>K (σ.put o.dst (.lit (.int .i64 L.length)))
        | _=>False
      | _=>False
    | _,_=>False
  | .call { callee:=.builtin .append,args,argTypes } =>
    match args.toList,argTypes.toList with
    | [s,x],[t,t'] =>
      match (ty P t).kind,(ty P (ty P t).elem).zero,k0 σ (ty P (ty P t).elem).size (ev σ s),nw σ (ev σ x) with
      | 1,some z,some (pre,σ1),some (sz,src) =>
        (t'=t/\(ty P (ty P t).elem).kind≠99/\sz=(ty P (ty P t).elem).size/\0<sz/\z.length=sz/\pre.length+src.length<=549755813888/\(ty P (ty P t).elem).bytes<=128/\(src.all λrow=>row.all cV)=true) /\
          K (({ σ1 with aa:=σ1.aa++[.arr sz (pre++src)] }:St).put o.dst (.ref σ1.aa.length sz 0 (pre.length+src.length)))
      | _,_,_,_=>False
    | _,_=>False
  | .call { callee:=.builtin .min,args,argTypes:=_ } =>
    match args.toList with
    | [x,y] =>
      match ev σ x,ev σ y with
      | .lit (.int k a),.lit (.int k' b)=>k=k'/\K (σ.put o.dst (.lit (.int k (min a b))))
      | _,_=>False
    | _=>False
  | .call { callee:=.builtin .max,args,argTypes:=_ } =>
    match args.toList with
    | [x,y] =>
      match ev σ x,ev σ y with
      | .lit (.int k a),.lit (.int k' b)=>k=k'/\K (σ.put o.dst (.lit (.int k (max a b))))
      | _,_=>False
    | _=>False
  | .call { callee:=.builtin .copy,args,argTypes } =>
    match args.toList,argTypes.toList with
    | [s,x],[t,_] =>
      match ev σ s,nw σ (ev σ x) with
      | .ref id sz off len,some (cX,src) =>
        match σ.aa[id]? with
        | some (.arr kK rows) =>
          ((ty P t).kind=1/\(ty P (ty P t).elem).kind≠99/\cX=sz/\kK=sz/\sz=(ty P (ty P t).elem).size/\0<sz/\(src.all λrow=>row.all cV)=true) /\
            K (({ σ with aa:=σ.aa.set id (.arr sz (rows.take off++src.take (min src.length len)++rows.drop (off+min src.length len))) }:St).put o.dst (.lit (.int .i64 (min src.length len:Nat))))
        | _=>False
      | _,_=>False
    | _,_=>False
  | .call { callee:=.builtin .clear,args,argTypes } =>
    match args.toList,argTypes.toList with
    | [s],[t] =>
      match ev σ s,(ty P (ty P t).elem).zero with
      | .ref id sz off len,some z =>
        match σ.aa[id]? with
        | some (.arr cX rows) =>
          ((ty P t).kind=1/\(ty P (ty P t).elem).kind≠99/\cX=sz/\z.length=sz/\0<sz/\(z.all λu=>u.oneCell')=true) /\
            K (({ σ with aa:=σ.aa.set id (.arr sz (rows.take off++aJ len (z.map AV.lit)++rows.drop (off+len))) }:St).put o.dst (.lit (.tuple #[])))
        | _=>False
      | _,_=>False
    | _,_=>False
  | .convert s d x =>
    match P.underlying d,ev σ x with
    | some (.int k),.lit (.int _ n)=>(P.underlying s).isSome=true/\K (σ.put o.dst (.lit (.int k (k.wrap n))))
    | _,_=>False
  | _=>False
end Go.Am

