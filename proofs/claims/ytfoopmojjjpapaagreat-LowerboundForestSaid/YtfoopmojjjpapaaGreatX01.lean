import Derived.Test.YtfoopmojjjpapaaGreatX00
import Derived.Orders
import Derived.Laws.AppendOwn
import Derived.Laws.MakeOwn
import Derived.Laws.Slices
import Derived.Laws.Small
set_option linter.all false
set_option maxHeartbeats 0
set_option maxRecDepth 20000
open Nat renaming le_refl→aU,le_trans→tP,lt_of_lt_of_le→CW,ne_of_lt→ns,lt_or_ge→dw
open List renaming getElem?_eq_some_iff→aT,getElem?_append_left→er,getElem?_set→bU,replicate→aI
open Array renaming getD_eq_getD_getElem?→ep,getElem?_eq_some_iff→mM
namespace Go.Am
inductive AV where
 |undef
 |lit (v:Value)
 |tree (sz:Nat) (rows:List (List AV))
 |cj (cells:List AV)
 |ref (id sz off len:Nat)
 |ptr (id r c:Nat)
 |agg (cs:List AV)
 |bx (vs:List AV)
 |fn (f:FuncId) (bn:List AV)
 |iv (t:TypeId) (v:AV)
 |db (id:Nat)
 deriving Inhabited
abbrev OJ(n:Int):AV:=.lit (.int .i64 n)
inductive Ob where
 |gone
 |var (cells:List AV)
 |arr (sz:Nat) (rows:List (List AV))
 |mp (ag:Nat) (L:List (List Int×AV))
 deriving Inhabited
structure St where
 env:Nat->AV
 aa:List Ob
def jn(e:Nat->AV)(d:Nat)(v:AV):Nat->AV:=λk=>if k=d then v else e k
def cellAt(rows:List (List AV))(r c:Nat):Option AV:=(rows[r]?).bind (·[c]?)
def cL(ents:List (Value×Value)):Array MapEntry:=(ents.mapIdx λi p=>(⟨p.1,p.2,i⟩:MapEntry)).toArray
def kV(ag:Nat)(l:List Int):Value:=if ag=0 then .int .i64 (l.headD 0) else .agg (l.map λn=>.int .i64 n).toArray
def kd(ag:Nat):Nat:=if ag=0 then 1 else ag
def cY(ag:Nat)(f:Nat->Value)(L:List (List Int×AV)):List (Value×Value):=L.mapIdx λj p=>(kV ag p.1,f j)
def J1(ag:Nat)(f:Nat->Value)(g:AV->AV)(L:List (List Int×AV)):cY ag f (L.map λp=>(p.1,g p.2))=cY ag f L:=by
 unfold cY;apply List.ext_getElem
 ·simp
 ·intros;simp
abbrev gd:=Nat->Option (Nat×Nat×Nat)
inductive iu(w:World)(Z:Nat->Prop):AV->Value->Prop where
 |lit (v:Value):iu w Z (.lit v) v
 |nil (sz cap:Nat) (a:Option Addr):iu w Z (.tree sz []) (.slice a 0 cap)
 |tree (sz:Nat) (rows:List (List AV)) (b o cap:Nat) (f:Nat->Nat->Value) (hz:Z b) (hr:∀ row∈rows,row.length=sz) (Dv:rows.length<=cap)
   (hc:∀ r c x,cellAt rows r c=some x->w.cell? ⟨b,o+(r*sz+c),none⟩=some (f r c))
   (ht:∀ r c x,cellAt rows r c=some x->iu w Z x (f r c)):iu w Z (.tree sz rows) (.slice (some ⟨b,o,none⟩) rows.length cap)
inductive aw(os:List Ob)(w:World)(Z:Nat->Prop)(blk:gd):AV->Value->Prop where
 |undef (cv:Value):aw os w Z blk .undef cv
 |cJ (v:AV) (cv:Value) (h:iu w Z v cv):aw os w Z blk v cv
 |cj (cells:List AV) (b o:Nat) (f:Nat->Value) (hz:Z b) (hc:∀ j x,cells[j]?=some x->w.cell? ⟨b,o+j,none⟩=some (f j))
   (ht:∀ j x,cells[j]?=some x->iu w Z x (f j)):aw os w Z blk (.cj cells) (.pointer (some ⟨b,o,none⟩))
 |ku (id sz off len:Nat) (cv:Value) (h:os[id]?=some .gone) (h1:cv.oneCell'=true):aw os w Z blk (.ref id sz off len) cv
 |mR (id r c:Nat) (cv:Value) (h:os[id]?=some .gone) (h1:cv.oneCell'=true):aw os w Z blk (.ptr id r c) cv
 |ref (id sz off len b o cap cap':Nat) (rows:List (List AV)) (h:os[id]?=some (.arr sz rows)) (hb:blk id=some (b,o,cap))
   (hl:off+len<=rows.length) (hc:off+cap'<=cap) (jC:len<=cap'):aw os w Z blk (.ref id sz off len) (.slice (some ⟨b,o+off*sz,none⟩) len cap')
 |lL (id sz:Nat) (h:os[id]?=some (.arr sz [])) (hb:blk id=none):aw os w Z blk (.ref id sz 0 0) (.slice none 0 0)
 |mo (id sz off b x:Nat) (bo:Nat×Nat) (rows:List (List AV)) (h:os[id]?=some (.arr sz rows)) (hb:blk id=some (b,bo)) (hl:off<=rows.length) :
   aw os w Z blk (.ref id sz off 0) (.slice (some ⟨b,x,none⟩) 0 0)
 |nx (id c b cap:Nat) (cells:List AV) (h:os[id]?=some (.var cells)) (hb:blk id=some (b,0,cap)):aw os w Z blk (.ptr id 0 c) (.pointer (some ⟨b,c,none⟩))
 |oa (id r c sz b o cap:Nat) (rows:List (List AV)) (h:os[id]?=some (.arr sz rows)) (hb:blk id=some (b,o,cap)) :
   aw os w Z blk (.ptr id r c) (.pointer (some ⟨b,o+(r*sz+c),none⟩))
 |agg (cs:List AV) (bg:Array Value) (hs:bg.size=cs.length) (h:∀ j x,cs[j]?=some x->aw os w Z blk x (bg.getD j Go.undef)):aw os w Z blk (.agg cs) (.agg bg)
 |bx (cs:List AV) (bg:Array Value) (hs:bg.size=cs.length) (h:∀ j x,cs[j]?=some x->aw os w Z blk x (bg.getD j Go.undef)):aw os w Z blk (.bx cs) (.tuple bg)
 |fn (f:FuncId) (cs:List AV) (bg:Array Value) (hs:bg.size=cs.length) (h:∀ j x,cs[j]?=some x->aw os w Z blk x (bg.getD j Go.undef)) :
   aw os w Z blk (.fn f cs) (.func (.func f) #[] bg)
 |iv (t:TypeId) (v:AV) (cv:Value) (h:aw os w Z blk v cv):aw os w Z blk (.iv t v) (.iface t cv)
 |db (id b:Nat) (ag:Nat) (L:List (List Int×AV)) (h:os[id]?=some (.mp ag L)) (hb:blk id=some (b,0,0)):aw os w Z blk (.db id) (.map (some b))
 |qc (id:Nat) (cv:Value) (h:os[id]?=some .gone) (h1:cv.oneCell'=true):aw os w Z blk (.db id) cv
def zF (os:List Ob) (w:World) (Z:Nat->Prop) (blk:gd) (i:Nat):Ob->Prop
  | .gone=>True
  | .var cells=>∃ b cap cur t,blk i=some (b,0,cap)/\w.heap[b]?=some (.cells cur t (0,0))/\cur.size=cells.length /\
      ∀ c v,cells[c]?=some v->aw os w Z blk v (cur.getD c Go.undef)
  | .arr sz rows=>0<sz/\(∀ row∈rows,row.length=sz) /\
      ((blk i=none/\rows=[])\/∃ b o cap cur t,blk i=some (b,o,cap)/\w.heap[b]?=some (.cells cur t (0,0))/\o+cap * sz<=cur.size/\rows.length<=cap/\cap<=maxLen /\
        ∀ r c v,cellAt rows r c=some v->aw os w Z blk v (cur.getD (o+(r * sz+c)) Go.undef))
  | .mp ag L=>∃ b,∃ f:Nat->Value,blk i=some (b,0,0)/\w.heap[b]?=some (.map (cL (cY ag f L)) L.length)/\(∀ p∈L,p.1.length=kd ag)/\∀ (j:Nat) p,L[j]?=some p->aw os w Z blk p.2 (f j)
def y9(g:Nat):AV :=
 match Fz.lookup g with
 |some cs=>.cj (cs.map .lit)
 |none=>.undef
structure Cx where
 w:World
 tmps:Array Value
 Z:Nat->Prop
 blk:gd
def Live(os:List Ob)(i:Nat):Prop:=∃ o,os[i]?=some o/\o≠.gone
def od(os:List Ob)(blk:gd)(b:Nat):Prop:=∃ i o cap,Live os i/\blk i=some (b,o,cap)
structure bk(σ:St)(γ:Cx):Prop where
 ar:∀ k,aw σ.aa γ.w γ.Z γ.blk (σ.env k) (γ.tmps.getD k Go.undef)
 dz:∀ (i:Nat) o,σ.aa[i]?=some o->zF σ.aa γ.w γ.Z γ.blk i o
 inj:∀ i j b o c o' c',Live σ.aa i->Live σ.aa j->γ.blk i=some (b,o,c)->γ.blk j=some (b,o',c')->i=j
 nz:∀ b,od σ.aa γ.blk b->¬ γ.Z b
 gk:∀ b,γ.Z b->b<γ.w.heap.size
 gl:∀ g,aw σ.aa γ.w γ.Z γ.blk (y9 g) (.pointer (some ⟨g,0,none⟩))
def Ob.dO:Ob->Ob->Prop
 |.var a,.var b=>a.length=b.length
 |.arr s a,.arr s' b=>s=s'/\a.length=b.length
 |.mp a _,.mp b _=>a=b
 |_,_=>False
def Ob.jr{o:Ob}(h:o≠.gone):o.dO o:=by
 cases o<;>simp_all [Ob.dO]
def Ob.Gm{a b c:Ob}(h:a.dO b)(k:b.dO c):a.dO c:=by
 cases a<;>cases b<;>cases c<;>simp_all [Ob.dO]
def Ob.Rw{a b:Ob}(h:a.dO b):a≠.gone/\b≠.gone:=by
 cases a<;>cases b<;>simp_all [Ob.dO]
structure Fr(Bw:List Ob)(pk:Cx)(os:List Ob)(γ:Cx):Prop where
 kM:γ.w.os=pk.w.os
 tape:γ.w.tape=pk.w.tape
 output:γ.w.output=pk.w.output
 size:pk.w.heap.size<=γ.w.heap.size
 dS:∀ b,b<pk.w.heap.size->¬ od Bw pk.blk b->γ.w.heap[b]?=pk.w.heap[b]?
 z0:∀ b,pk.Z b->γ.Z b
 z1:∀ b,γ.Z b->pk.Z b\/od Bw pk.blk b\/pk.w.heap.size<=b
 own:∀ b,od os γ.blk b->od Bw pk.blk b\/pk.w.heap.size<=b
 len:Bw.length<=os.length
 dV:∀ i,i<Bw.length->Live os i->γ.blk i=pk.blk i/\∃ o o',Bw[i]?=some o/\os[i]?=some o'/\o.dO o'
 drawn:pk.w.drawn<=γ.w.drawn:=by first|exact aU _|(simp;done)|omega
def Fr.refl(os:List Ob)(γ:Cx):Fr os γ os γ :=
 ⟨rfl,rfl,rfl,aU _,λ_ _ _=>rfl,λ_ h=>h,λ_ h=>.inl h,λ_ h=>.inl h,aU _,λ_ _ ⟨o,ho,hg⟩=>⟨rfl,o,o,ho,ho,Ob.jr hg⟩,aU _⟩
def Fr.trans{a b c:List Ob}{x y z:Cx}(h:Fr a x b y)(k:Fr b y c z):Fr a x c z where
 kM:=k.kM.trans h.kM
 tape:=k.tape.trans h.tape
 output:=k.output.trans h.output
 drawn:=tP h.drawn k.drawn
 size:=tP h.size k.size
 dS:=λn hn ho=>(k.dS n (CW hn h.size) (λhw=>(h.own n hw).elim ho (λhl=>CZ))).trans (h.dS n hn ho)
 z0:=λn hn=>k.z0 n (h.z0 n hn)
 z1:=λn hn=>by
  rcases k.z1 n hn with h1|h1|h1
  ·exact h.z1 n h1
  ·rcases h.own n h1 with h2|h2
   ·exact .inr (.inl h2)
   ·exact .inr (.inr h2)
  ·exact .inr (.inr (tP h.size h1))
 own:=λn hn=>by
  rcases k.own n hn with h1|h1
  ·exact h.own n h1
  ·exact .inr (tP h.size h1)
 len:=tP h.len k.len
 dV:=λi hi hl=>by
  obtain⟨h1,o,o',ho,cH,hk⟩:=k.dV i (CW hi h.len) hl;obtain⟨h3,x,x',hx,bZ,bc⟩:=h.dV i hi ⟨o,ho,(Ob.Rw hk).1⟩;rw[ho]at bZ;simp at bZ;subst bZ;exact⟨h1.trans h3,x,o',hx,cH,Ob.Gm bc hk⟩
def KH{w w':World}{b o:Nat}(h:w'.heap[b]?=w.heap[b]?):w'.cell? ⟨b,o,none⟩=w.cell? ⟨b,o,none⟩:=by
 simp[World.cell?,h]
def iu.mono{w w':World}{Z Z':Nat->Prop}{v:AV}{cv:Value}(h:iu w Z v cv)(hz:∀ b,Z b->Z' b/\w'.heap[b]?=w.heap[b]?):iu w' Z' v cv:=by
 induction h with
 |lit v=>exact .lit v
 |nil sz cap a=>exact .nil sz cap a
 |tree sz rows b o cap f sv hr Dv hc _ ih =>
  exact .tree sz rows b o cap f (hz b sv).1 hr Dv (λr c x hx=>by rw[KH (hz b sv).2];exact hc r c x hx) ih
def aw.mono{os gu:List Ob}{w w':World}{Z Z':Nat->Prop}{blk jQ:gd}{v:AV}{cv:Value}(h:aw os w Z blk v cv)(hz:∀ b,Z b->Z' b/\w'.heap[b]?=w.heap[b]?)(ho:∀ i o,os[i]?=some o->gu[i]?=some .gone\/(jQ i=blk i/\∃ o',gu[i]?=some o'/\o.dO o')):aw gu w' Z' jQ v cv:=by
 induction h with
 |undef cv=>exact .undef cv
 |cJ v cv h=>exact .cJ v cv (h.mono hz)
 |cj cells b o f sv hc ht =>
  exact .cj cells b o f (hz b sv).1 (λj x hx=>by rw[KH (hz b sv).2];exact hc j x hx) (λj x hx=>(ht j x hx).mono hz)
 |ku id sz off len cv h h1 =>
  rcases ho id _ h with h'|⟨_,o',_,hl⟩
  ·exact .ku id sz off len cv h' h1
  ·exact absurd hl (by simp[Ob.dO])
 |mR id r c cv h h1 =>
  rcases ho id _ h with h'|⟨_,o',_,hl⟩
  ·exact .mR id r c cv h' h1
  ·exact absurd hl (by simp[Ob.dO])
 |ref id sz off len b o cap cap' rows h hb hl hc jC =>
  rcases ho id _ h with h'|⟨fS,o',cH,hk⟩
  ·exact .ku _ _ _ _ _ h' rfl
  ·cases o'<;>simp[Ob.dO]at hk;obtain⟨rfl,hk⟩:=hk;exact .ref id sz off len b o cap cap' _ cH (fS.trans hb) CZ hc jC
 |lL id sz h hb =>
  rcases ho id _ h with h'|⟨fS,o',cH,hk⟩
  ·exact .ku _ _ _ _ _ h' rfl
  ·cases o'<;>simp[Ob.dO]at hk;obtain⟨rfl,hk⟩:=hk;have bc:=List.eq_nil_of_length_eq_zero hk.symm;subst bc;exact .lL id sz cH (fS.trans hb)
 |mo id sz off b x bo rows h hb hl =>
  rcases ho id _ h with h'|⟨fS,o',cH,hk⟩
  ·exact .ku _ _ _ _ _ h' rfl
  ·cases o'<;>simp[Ob.dO]at hk;obtain⟨rfl,hk⟩:=hk;exact .mo id sz off b x bo _ cH (fS.trans hb) CZ
 |nx id c b cap cells h hb =>
  rcases ho id _ h with h'|⟨fS,o',cH,hk⟩
  ·exact .mR _ _ _ _ h' rfl
  ·cases o'<;>simp[Ob.dO]at hk;exact .nx id c b cap _ cH (fS.trans hb)
 |oa id r c sz b o cap rows h hb =>
  rcases ho id _ h with h'|⟨fS,o',cH,hk⟩
  ·exact .mR _ _ _ _ h' rfl
  ·cases o'<;>simp[Ob.dO]at hk;obtain⟨rfl,hk⟩:=hk;exact .oa id r c sz b o cap _ cH (fS.trans hb)
 |agg cs bg hs _ ih=>exact .agg cs bg hs ih
 |bx cs bg hs _ ih=>exact .bx cs bg hs ih
 |fn f cs bg hs _ ih=>exact .fn f cs bg hs ih
 |iv t v cv _ ih=>exact .iv t v cv ih
 |db id b ag L h hb =>
  rcases ho id _ h with h'|⟨fS,o',cH,hk⟩
  ·exact .qc _ _ h' rfl
  ·cases o'<;>simp[Ob.dO]at hk;subst hk;exact .db id b _ _ cH (fS.trans hb)
 |qc id cv h h1 =>
  rcases ho id _ h with h'|⟨_,o',cH,hk⟩
  ·exact .qc _ _ h' h1
  ·cases o'<;>simp[Ob.dO]at hk
def x8{os gu:List Ob}{w w':World}{Z Z':Nat->Prop}{blk jQ:gd}{g:Nat}{cv:Value}(h:aw os w Z blk (y9 g) cv)(hz:∀ b,Z b->Z' b/\w'.heap[b]?=w.heap[b]?):aw gu w' Z' jQ (y9 g) cv:=by
 unfold y9 at h ⊢;generalize Fz.lookup g=l at h ⊢;cases l with
 |none=>exact .undef _
 |some cs =>
  dsimp only at h ⊢;cases h with
  |cJ _ _ h=>cases h
  |cj cells b o f sv hc ht=>exact .cj _ b o f (hz b sv).1 (λj x hx=>by rw[KH (hz b sv).2];exact hc j x hx) (λj x hx=>(ht j x hx).mono hz)
def Live.lt{os:List Ob}{i:Nat}(h:Live os i):i<os.length:=by
 obtain⟨o,ho,_⟩:=h;exact(aT.1 ho).1
def aw.same{os:List Ob}{w w':World}{Z:Nat->Prop}{blk:gd}{v:AV}{cv:Value}(h:aw os w Z blk v cv)(hw:w'.heap=w.heap):aw os w' Z blk v cv :=
 h.mono (λb hb=>⟨hb,by rw[hw]⟩) (λi o ho=>by
  by_cases hg:o=.gone
  ·subst hg;exact .inl ho
  ·exact .inr ⟨rfl,o,ho,Ob.jr hg⟩)
def zF.mono{os gu:List Ob}{w w':World}{Z Z':Nat->Prop}{blk jQ:gd}{i:Nat}{o:Ob}(h:zF os w Z blk i o)(hR:∀ v cv,aw os w Z blk v cv->aw gu w' Z' jQ v cv)(hb:jQ i=blk i)(hk:∀ b o c,blk i=some (b,o,c)->w'.heap[b]?=w.heap[b]?):zF gu w' Z' jQ i o:=by
 cases o with
 |gone=>trivial
 |var cells =>
  obtain⟨b,cap,cur,t,h1,h2,h3,h4⟩:=h;exact⟨b,cap,cur,t,hb.trans h1,(hk _ _ _ h1).trans h2,h3,λc v hv=>hR _ _ (h4 c v hv)⟩
 |arr sz rows =>
  obtain⟨h0,hr,h⟩:=h;refine⟨h0,hr,?_⟩;rcases h with⟨h1,h2⟩|⟨b,o,cap,cur,t,h1,h2,h3,h4,h5,h6⟩
  ·exact .inl ⟨hb.trans h1,h2⟩
  ·exact .inr ⟨b,o,cap,cur,t,hb.trans h1,(hk _ _ _ h1).trans h2,h3,h4,h5,λr c v hv=>hR _ _ (h6 r c v hv)⟩
 |mp ag L =>
  obtain⟨b,f,h1,h2,h3,h4⟩:=h;exact⟨b,f,hb.trans h1,(hk _ _ _ h1).trans h2,h3,λj p hp=>hR _ _ (h4 j p hp)⟩
def bk.put{σ:St}{γ:Cx}(h:bk σ γ)(d:Nat)(hd:d<γ.tmps.size){v:AV}{cv:Value}(hv:aw σ.aa γ.w γ.Z γ.blk v cv):
  bk { σ with env:=jn σ.env d v } { γ with tmps:=γ.tmps.setIfInBounds d cv } where
 ar:=λk=>by
  simp only[jn];by_cases hk:k=d
  ·subst hk;simp[ep,hd];exact hv
  ·simp only[hk,if_false,ep,Array.getElem?_setIfInBounds_ne (Ne.symm hk)];have:=h.ar k;simpa [ep] using this
 dz:=h.dz
 inj:=h.inj
 nz:=h.nz
 gk:=h.gk
 gl:=h.gl
def bk.J9{σ:St}{γ:Cx}(h:bk σ γ){w':World}(hw:w'.heap=γ.w.heap):bk σ { γ with w:=w' } where
 ar:=λk=>(h.ar k).same hw
 dz:=λi o ho=>(h.dz i o ho).mono (λv cv hv=>hv.same hw) rfl (λb _ _ _=>by rw[hw])
 inj:=h.inj
 nz:=h.nz
 gk:=λb hb=>by have:=h.gk b hb;simpa [hw] using this
 gl:=λg=>(h.gl g).same hw
theorem Fr.J9{a b:List Ob}{x y:Cx}(h:Fr a x b y){w':World}(hw:w'.heap=y.w.heap)(h1:w'.os=y.w.os)(h2:w'.tape=y.w.tape)(h3:w'.output=y.w.output)(h4:y.w.drawn<=w'.drawn:=by first|exact Nat.le_refl _|(simp;done)|omega):
  Fr a x b { y with w:=w' } :=
 h.trans ⟨h1,h2,h3,by simp[hw],fun _ _ _=>by simp[hw],fun _ h=>h,fun _ h=>.inl h,fun _ h=>.inl h,Nat.le_refl _,fun _ _ ⟨o,ho,hg⟩=>⟨rfl,o,o,ho,ho,Ob.jr hg⟩,h4⟩
def Fr.put{a b:List Ob}{x y:Cx}(h:Fr a x b y)(t:Array Value):Fr a x b { y with tmps:=t }:=⟨h.kM,h.tape,h.output,h.size,h.dS,h.z0,h.z1,h.own,h.len,h.dV,h.drawn⟩
def cT(blk:gd)(n:Nat)(x:Option (Nat×Nat×Nat)):gd:=λi=>if i=n then x else blk i
def sJ(os:List Ob)(w:World)(Z:Nat->Prop)(blk:gd)(o cap:Nat)(cur:Array Value):Ob->Prop
 |.gone=>True
 |.var cells=>o=0/\cur.size=cells.length/\∀ c v,cells[c]?=some v->aw os w Z blk v (cur.getD c Go.undef)
 |.arr sz rows=>0<sz/\(∀ row∈rows,row.length=sz)/\o+cap*sz<=cur.size/\rows.length<=cap/\cap<=maxLen /\
    ∀ r c v,cellAt rows r c=some v->aw os w Z blk v (cur.getD (o+(r*sz+c)) Go.undef)
 |.mp _ _=>False
def sJ.KA{os gu:List Ob}{w w':World}{Z Z':Nat->Prop}{blk jQ:gd}{i b o cap:Nat}{cur:Array Value}{t:TypeId}{ob:Ob}(h:sJ os w Z blk o cap cur ob)(hR:∀ v cv,aw os w Z blk v cv->aw gu w' Z' jQ v cv)(hb:jQ i=some (b,o,cap))(hk:w'.heap[b]?=some (.cells cur t (0,0))):zF gu w' Z' jQ i ob:=by
 cases ob with
 |gone=>trivial
 |var cells =>
  obtain⟨h0,h1,h2⟩:=h;subst h0;exact⟨b,cap,cur,t,hb,hk,h1,λc v hv=>hR _ _ (h2 c v hv)⟩
 |arr sz rows =>
  obtain⟨h0,h1,h2,h3,h4,h5⟩:=h;exact⟨h0,h1,.inr ⟨b,o,cap,cur,t,hb,hk,h2,h3,h4,λr c v hv=>hR _ _ (h5 r c v hv)⟩⟩
 |mp ag L=>exact h.elim
def bk.Dl{σ:St}{γ:Cx}(h:bk σ γ){w':World}{x:Obj}{cap:Nat}{ob:Ob}(hw:w'.heap=γ.w.heap.push x)(bK:∀ gu w' jQ,(∀ v cv,aw σ.aa γ.w γ.Z γ.blk v cv->aw gu w' γ.Z jQ v cv)->jQ σ.aa.length=some (γ.w.heap.size,0,cap)->w'.heap[γ.w.heap.size]?=some x->zF gu w' γ.Z jQ σ.aa.length ob):
  bk { σ with aa:=σ.aa++[ob] } { γ with w:=w',blk:=cT γ.blk σ.aa.length (some (γ.w.heap.size,0,cap)) }:=by
 have ba:∀ b,b<γ.w.heap.size->w'.heap[b]?=γ.w.heap[b]?:=λb hb=>by
  rw[hw,Array.getElem?_push,if_neg CZ]
 have hR:∀ v cv,aw σ.aa γ.w γ.Z γ.blk v cv->aw (σ.aa++[ob]) w' γ.Z (cT γ.blk σ.aa.length (some (γ.w.heap.size,0,cap))) v cv:=λv cv hv =>
  hv.mono (λb hb=>⟨hb,ba b (h.gk b hb)⟩) (λi o ho=>by
   have hi:i<σ.aa.length:=(aT.1 ho).1;have cH:(σ.aa++[ob])[i]?=some o:=by rw[er hi];exact ho
   by_cases cG:o=.gone
   ·subst cG;exact .inl cH
   ·exact .inr ⟨by simp[cT,ns hi],o,cH,Ob.jr cG⟩)
 have bO:∀ i,Live (σ.aa++[ob]) i->i=σ.aa.length\/Live σ.aa i:=by
  rintro i⟨o,ho,cG⟩;rcases dw i σ.aa.length with hi|hi
  ·rw[er hi]at ho;exact .inr ⟨o,ho,cG⟩
  ·left;have:=(aT.1 ho).1;simp at this;omega
 have wN:∀ i b o c,Live σ.aa i->γ.blk i=some (b,o,c)->b<γ.w.heap.size:=by
  rintro i b o c⟨x,hx,eF⟩hb;have:=h.dz i x hx;cases x with
  |gone=>exact absurd rfl eF
  |var cells =>
   obtain⟨b',cap',kP,t',h1,h2,_⟩:=this;rw[hb]at h1;simp at h1;obtain⟨rfl,_⟩:=h1;exact(mM.1 h2).1
  |arr sz rows =>
   obtain⟨_,_,⟨h1,_⟩|⟨b',o',cap',kP,t',h1,h2,_⟩⟩:=this
   ·rw[hb]at h1;simp at h1
   ·rw[hb]at h1;simp at h1;obtain⟨rfl,_⟩:=h1;exact(mM.1 h2).1
  |mp ag L =>
   obtain⟨b',f',h1,h2,_⟩:=this;rw[hb]at h1;simp at h1;obtain⟨rfl,_⟩:=h1;exact(mM.1 h2).1
 refine⟨λk=>hR _ _ (h.ar k),?_,?_,?_,?_,λg=>hR _ _ (h.gl g)⟩
 ·intro i o ho;rcases dw i σ.aa.length with hi|hi
  ·have cH:σ.aa[i]?=some o:=by rw[er hi]at ho;exact ho
   by_cases cG:o=.gone
   ·subst cG;trivial
   ·refine(h.dz i o cH).mono hR (by simp[cT,ns hi]) (λb x c hb=>ba b (wN i b x c ⟨o,cH,cG⟩ hb))
  ·have aq:i=σ.aa.length:=by
    have:=(aT.1 ho).1;simp at this;omega
   subst aq;simp at ho;subst ho;exact bK _ _ _ hR (by simp[cT]) (by rw[hw];simp)
 ·intro i j b o c o' c' hi hj fh gV;simp only[cT]at fh gV;rcases bO i hi with rfl|aq<;>rcases bO j hj with rfl|gx
  ·rfl
  ·rw[if_pos rfl]at fh;rw[if_neg (ns gx.lt)]at gV;have:=wN _ _ _ _ gx gV;simp at fh;omega
  ·rw[if_pos rfl]at gV;rw[if_neg (ns aq.lt)]at fh;have:=wN _ _ _ _ aq fh;simp at gV;omega
  ·rw[if_neg (ns gx.lt)]at gV;rw[if_neg (ns aq.lt)]at fh;exact h.inj i j b o c o' c' aq gx fh gV
 ·rintro b ⟨i,o,c,hi,hb⟩ hz;simp only[cT]at hb;rcases bO i hi with rfl|aq
  ·rw[if_pos rfl]at hb;simp at hb;have:=h.gk b hz;omega
  ·rw[if_neg (ns aq.lt)]at hb;exact h.nz b ⟨i,o,c,aq,hb⟩ hz
 ·intro b hb;have:=h.gk b hb;rw[hw];simp;omega
def bk.push{σ:St}{γ:Cx}(h:bk σ γ){w':World}{cur:Array Value}{t:TypeId}{cap:Nat}{ob:Ob}(hw:w'.heap=γ.w.heap.push (.cells cur t (0,0)))(bK:sJ σ.aa γ.w γ.Z γ.blk 0 cap cur ob):
  bk { σ with aa:=σ.aa++[ob] } { γ with w:=w',blk:=cT γ.blk σ.aa.length (some (γ.w.heap.size,0,cap)) } :=
 h.Dl hw λ_ _ _ hR hb hk=>bK.KA hR hb hk
def bk.blt{σ:St}{γ:Cx}(h:bk σ γ){i b o c:Nat}(hl:Live σ.aa i)(hb:γ.blk i=some (b,o,c)):b<γ.w.heap.size:=by
 obtain⟨x,hx,eF⟩:=hl;have:=h.dz i x hx;cases x with
 |gone=>exact absurd rfl eF
 |var cells =>
  obtain⟨b',cap',kP,t',h1,h2,_⟩:=this;rw[hb]at h1;simp at h1;obtain⟨rfl,_⟩:=h1;exact(mM.1 h2).1
 |arr sz rows =>
  obtain⟨_,_,⟨h1,_⟩|⟨b',o',cap',kP,t',h1,h2,_⟩⟩:=this
  ·rw[hb]at h1;simp at h1
  ·rw[hb]at h1;simp at h1;obtain⟨rfl,_⟩:=h1;exact(mM.1 h2).1
 |mp ag L =>
  obtain⟨b',f',h1,h2,_⟩:=this;rw[hb]at h1;simp at h1;obtain⟨rfl,_⟩:=h1;exact(mM.1 h2).1
theorem Fr.Dl{σ:St}{γ:Cx}{w':World}{x0:Obj}{cap:Nat}(ob:Ob)(hw:w'.heap=γ.w.heap.push x0)(h1:w'.os=γ.w.os)(h2:w'.tape=γ.w.tape)(h3:w'.output=γ.w.output)(h4:γ.w.drawn<=w'.drawn:=by first|exact Nat.le_refl _|(simp;done)|omega):
  Fr σ.aa γ (σ.aa++[ob]) { γ with w:=w',blk:=cT γ.blk σ.aa.length (some (γ.w.heap.size,0,cap)) } where
 kM:=h1
 tape:=h2
 output:=h3
 drawn:=h4
 size:=by rw[hw];simp
 dS:=fun b hb _=>by simp only[hw,Array.getElem?_push];rw[if_neg (by omega)]
 z0:=fun _ h=>h
 z1:=fun _ h=>.inl h
 own:=by
  rintro b⟨i,o,c,⟨x,hx,eF⟩,hb⟩;simp only[cT]at hb;split at hb
  ·simp at hb;right;omega
  ·rename_i bX;have hi:i<σ.aa.length:=by have:=(List.getElem?_eq_some_iff.1 hx).1;simp at this;omega
   rw[List.getElem?_append_left hi]at hx;exact .inl ⟨i,o,c,⟨x,hx,eF⟩,hb⟩
 len:=by simp
 dV:=by
  rintro i hi⟨x,hx,eF⟩;have hx0:=hx;rw[List.getElem?_append_left hi]at hx;exact⟨by simp[cT,Nat.ne_of_lt hi],x,x,hx,hx0,Ob.jr eF⟩
theorem Fr.push{σ:St}{γ:Cx}{w':World}{cur:Array Value}{t:TypeId}{cap:Nat}(ob:Ob)(hw:w'.heap=γ.w.heap.push (.cells cur t (0,0)))(h1:w'.os=γ.w.os)(h2:w'.tape=γ.w.tape)(h3:w'.output=γ.w.output)(h4:γ.w.drawn<=w'.drawn:=by first|exact Nat.le_refl _|(simp;done)|omega):
  Fr σ.aa γ (σ.aa++[ob]) { γ with w:=w',blk:=cT γ.blk σ.aa.length (some (γ.w.heap.size,0,cap)) }:=Fr.Dl ob hw h1 h2 h3 h4
def bk.kill{σ:St}{γ:Cx}(h:bk σ γ)(id:Nat):bk { σ with aa:=σ.aa.set id .gone } γ:=by
 have hR:∀ v cv,aw σ.aa γ.w γ.Z γ.blk v cv->aw (σ.aa.set id .gone) γ.w γ.Z γ.blk v cv:=λv cv hv =>
  hv.mono (λb hb=>⟨hb,rfl⟩) (λi o ho=>by
   have hi:i<σ.aa.length:=(aT.1 ho).1;rw[bU];by_cases mT:id=i
   ·left;simp[mT,hi]
   ·rw[if_neg mT];by_cases cG:o=.gone
    ·subst cG;exact .inl ho
    ·exact .inr ⟨rfl,o,ho,Ob.jr cG⟩)
 have bO:∀ i,Live (σ.aa.set id .gone) i->Live σ.aa i:=by
  rintro i⟨o,ho,cG⟩;rw[bU]at ho;split at ho
  ·split at ho<;>simp at ho;exact absurd ho.symm cG
  ·exact⟨o,ho,cG⟩
 refine⟨λk=>hR _ _ (h.ar k),?_,λi j b o c o' c' hi hj=>h.inj i j b o c o' c' (bO i hi) (bO j hj),?_,h.gk,λg=>hR _ _ (h.gl g)⟩
 ·intro i o ho;rw[bU]at ho;split at ho
  ·split at ho<;>simp at ho;subst ho;trivial
  ·exact(h.dz i o ho).mono hR rfl (λ_ _ _ _=>rfl)
 ·rintro b ⟨i,o,c,hi,hb⟩;exact h.nz b ⟨i,o,c,bO i hi,hb⟩
def Fr.kill(os:List Ob)(γ:Cx)(id:Nat):Fr os γ (os.set id .gone) γ where
 kM:=rfl
 tape:=rfl
 output:=rfl
 size:=aU _
 dS:=λ_ _ _=>rfl
 z0:=λ_ h=>h
 z1:=λ_ h=>.inl h
 own:=by
  rintro b⟨i,o,c,⟨x,hx,eF⟩,hb⟩;rw[bU]at hx;split at hx
  ·split at hx<;>simp at hx;exact absurd hx.symm eF
  ·exact .inl ⟨i,o,c,⟨x,hx,eF⟩,hb⟩
 len:=Fl
 dV:=by
  rintro i hi⟨x,hx,eF⟩;have hx0:=hx;rw[bU]at hx;split at hx
  ·split at hx<;>simp at hx;exact absurd hx.symm eF
  ·exact⟨rfl,x,x,hx,hx0,Ob.jr eF⟩
def bk.Gc{σ:St}{γ:Cx}(h:bk σ γ){id:Nat}{ob ob':Ob}(ho:σ.aa[id]?=some ob)(hg:ob≠.gone)(jS:ob.dO ob'){b o cap:Nat}(hb:γ.blk id=some (b,o,cap)){w':World}(mw:∀ k,k≠b->w'.heap[k]?=γ.w.heap[k]?)(aO:w'.heap.size=γ.w.heap.size)(bK:∀ gu,(∀ v cv,aw σ.aa γ.w γ.Z γ.blk v cv->aw gu w' γ.Z γ.blk v cv)->zF gu w' γ.Z γ.blk id ob'):bk { σ with aa:=σ.aa.set id ob' } { γ with w:=w' }:=by
 have bV:id<σ.aa.length:=(aT.1 ho).1;have ke:Live σ.aa id:=⟨ob,ho,hg⟩;have sw:ob'≠.gone:=by intro e;subst e;cases ob<;>simp[Ob.dO]at jS
 have hR:∀ v cv,aw σ.aa γ.w γ.Z γ.blk v cv->aw (σ.aa.set id ob') w' γ.Z γ.blk v cv:=λv cv hv =>
  hv.mono (λz hz=>⟨hz,mw z (λe=>h.nz b ⟨id,o,cap,ke,hb⟩ (e▸hz))⟩) (λi x hx=>by
   rw[bU];by_cases mT:id=i
   ·subst mT;rw[ho]at hx;simp at hx;subst hx;right;refine⟨rfl,ob',by simp[bV],jS⟩
   ·rw[if_neg mT];by_cases cG:x=.gone
    ·subst cG;exact .inl hx
    ·exact .inr ⟨rfl,x,hx,Ob.jr cG⟩)
 have bO:∀ i,Live (σ.aa.set id ob') i->Live σ.aa i:=by
  rintro i⟨x,hx,eF⟩;rw[bU]at hx;split at hx
  ·rename_i e;subst e;exact ke
  ·exact⟨x,hx,eF⟩
 refine⟨λk=>hR _ _ (h.ar k),?_,λi j b o c o' c' hi hj=>h.inj i j b o c o' c' (bO i hi) (bO j hj),?_,λz hz=>by rw[aO];exact h.gk z hz,λg=>hR _ _ (h.gl g)⟩
 ·intro i x hx;rw[bU]at hx;by_cases mT:id=i
  ·subst mT;rw[if_pos rfl,if_pos bV]at hx;simp at hx;subst hx;exact bK _ hR
  ·rw[if_neg mT]at hx;by_cases cG:x=.gone
   ·subst cG;trivial
   ·refine(h.dz i x hx).mono hR rfl (λz y c hz=>mw z (λe=>mT ?_));subst e;exact h.inj id i z o cap y c ke ⟨x,hx,cG⟩ hb hz
 ·rintro z ⟨i,y,c,hi,hz⟩;exact h.nz z ⟨i,y,c,bO i hi,hz⟩
def bk.write{σ:St}{γ:Cx}(h:bk σ γ){id:Nat}{ob ob':Ob}(ho:σ.aa[id]?=some ob)(hg:ob≠.gone)(jS:ob.dO ob'){b o cap:Nat}(hb:γ.blk id=some (b,o,cap)){w':World}{cur:Array Value}{t:TypeId}(hw:w'.heap[b]?=some (.cells cur t (0,0)))(mw:∀ k,k≠b->w'.heap[k]?=γ.w.heap[k]?)(aO:w'.heap.size=γ.w.heap.size)(bK:sJ σ.aa γ.w γ.Z γ.blk o cap cur ob'):bk { σ with aa:=σ.aa.set id ob' } { γ with w:=w' } :=
 h.Gc ho hg jS hb mw aO λ_ hR=>bK.KA hR hb hw
theorem Fr.write{σ:St}{γ:Cx}{id:Nat}{ob:Ob}(ob':Ob)(ho:σ.aa[id]?=some ob)(hg:ob≠.gone)(jS:ob.dO ob'){b o cap:Nat}(hb:γ.blk id=some (b,o,cap)){w':World}(mw:∀ k,k≠b->w'.heap[k]?=γ.w.heap[k]?)(aO:w'.heap.size=γ.w.heap.size)(h1:w'.os=γ.w.os)(h2:w'.tape=γ.w.tape)(h3:w'.output=γ.w.output)(h4:γ.w.drawn<=w'.drawn:=by first|exact Nat.le_refl _|(simp;done)|omega):
  Fr σ.aa γ (σ.aa.set id ob') { γ with w:=w' } where
 kM:=h1
 tape:=h2
 output:=h3
 drawn:=h4
 size:=by simp[aO]
 dS:=fun z _ qg=>mw z (fun e=>qg ⟨id,o,cap,⟨ob,ho,hg⟩,e▸hb⟩)
 z0:=fun _ h=>h
 z1:=fun _ h=>.inl h
 own:=by
  rintro z⟨i,y,c,⟨x,hx,eF⟩,hz⟩;rw[List.getElem?_set]at hx;split at hx
  ·rename_i e;subst e;exact .inl ⟨id,y,c,⟨ob,ho,hg⟩,hz⟩
  ·exact .inl ⟨i,y,c,⟨x,hx,eF⟩,hz⟩
 len:=by simp
 dV:=by
  rintro i hi⟨x,hx,eF⟩;have hx0:=hx;rw[List.getElem?_set]at hx;split at hx
  ·rename_i e;subst e;exact⟨rfl,ob,ob',ho,by rw[List.getElem?_set];simp[hi],jS⟩
  ·exact⟨rfl,x,x,hx,hx0,Ob.jr eF⟩
end Go.Am
namespace Go.Am
structure Ty where
 kind:Nat
 size:Nat
 bytes:Nat
 elem:Nat
 len:Nat
 zero:Option (List Value)
 aN:List (Nat×Nat×Nat)
def wR(P:Program)(t:TypeId):Nat:=match P.info? t with|some i=>i.size|none=>0
def ty(P:Program)(t:TypeId):Ty :=
 match P.info? t,P.underlying t with
 |some i,some d =>
  let base:Ty:={ kind:=0,size:=i.size,bytes:=i.bytes,elem:=0,len:=0,zero:=i.zero.map (·.cells.toList),aN:=[] }
  match d with
  |.slice e=>{ base with kind:=1,elem:=e }
  |.array n e=>{ base with kind:=2,elem:=e,len:=n }
  |.struct fs=>{ base with kind:=3,aN:=fs.toList.map λf=>(f.offset,f.type,wR P f.type) }
  |.string=>{ base with kind:=4 }
  |.int _=>{ base with kind:=5 }
  |.bool=>{ base with kind:=6 }
  |.pointer e=>{ base with kind:=7,elem:=e }
  |.map _ e=>{ base with kind:=8,elem:=e }
  |.func _ _ _=>{ base with kind:=9 }
  |_=>base
 |_,_=>{ kind:=99,size:=0,bytes:=0,elem:=0,len:=0,zero:=none,aN:=[] }
def Ty.isAgg(t:Ty):Bool:=t.kind==2||t.kind==3
def ui{P:Program}{t:TypeId}(h:(ty P t).kind≠99):∃i d,P.info? t=some i/\P.underlying t=some d/\(ty P t).size=i.size/\(ty P t).bytes=i.bytes/\(ty P t).zero=i.zero.map (·.cells.toList):=by
 unfold ty at h ⊢;cases hi:P.info? t with
 |none=>simp[hi]at h
 |some i =>
  cases hd:P.underlying t with
  |none=>simp[hi,hd]at h
  |some d =>
   refine⟨i,d,rfl,rfl,?_,?_,?_⟩<;>cases d<;>rfl
def ug{P:Program}{t:TypeId}(h:(ty P t).kind=1):P.underlying t=some (.slice (ty P t).elem):=by
 unfold ty at h ⊢;cases hi:P.info? t<;>cases hd:P.underlying t<;>simp[hi,hd]at h ⊢;rename_i i d;cases d<;>simp at h ⊢
def Kz{P:Program}{t:TypeId}(h:(ty P t).kind=2):P.underlying t=some (.array (ty P t).len (ty P t).elem):=by
 unfold ty at h ⊢;cases hi:P.info? t<;>cases hd:P.underlying t<;>simp[hi,hd]at h ⊢;rename_i i d;cases d<;>simp at h ⊢
def Kw{P:Program}{t:TypeId}(h:(ty P t).kind=3):∃fs,P.underlying t=some (.struct fs)/\(ty P t).aN=fs.toList.map λf=>(f.offset,f.type,wR P f.type):=by
 unfold ty at h ⊢;cases hi:P.info? t<;>cases hd:P.underlying t<;>simp[hi,hd]at h ⊢;rename_i i d;cases d<;>simp at h ⊢
def aeS{P:Program}{t:TypeId}(h:(ty P t).kind=6):P.underlying t=some .bool:=by
 unfold ty at h;cases hi:P.info? t<;>cases hd:P.underlying t<;>simp[hi,hd]at h ⊢;rename_i i d;cases d<;>simp at h ⊢
def eh:Value->AV
 |.agg cs=>.agg (cs.toList.map .lit)
 |v=>.lit v
def ev(σ:St):Operand->AV
 |.tmp t=>σ.env t
 |.const v=>eh v
 |.func f=>.fn f []
 |.global g=>y9 g
def St.put(σ:St)(dst:Option Tmp)(v:AV):St :=
 match dst with
 |some d=>{ σ with env:=jn σ.env d v }
 |none=>σ
def cQ:AV->Bool
 |.lit v=>v.oneCell'
 |.tree ..|.cj _|.ref ..|.ptr ..|.fn ..|.iv ..|.db ..=>true
 |_=>false
def cellsOf:AV->List AV
 |.agg cs=>cs
 |v=>[v]
def setCells(cells:List AV)(c:Nat):List AV->List AV
 |[]=>cells
 |v::vs=>setCells (cells.set c v) (c+1) vs
def mh(place:Nat->Option (Nat×Nat))(cells:List AV):List (Nat×AV)->Option (List AV)
 |[]=>some cells
 | (i,v)::rest =>
  match place i with
  |none=>none
  |some (off,size)=>if(cellsOf v).length=size/\off+size<=cells.length then mh place (setCells cells off (cellsOf v)) rest else none
def mj(sz:Nat):Nat->List AV->List (List AV)
 |0,_=>[]
 |n+1,cs=>cs.take sz::mj sz n (cs.drop sz)
def rowOf(σ:St)(id r:Nat):Option (List AV) :=
 match σ.aa[id]? with
 |some (.var cells)=>if r=0 then some cells else none
 |some (.arr _ rows)=>rows[r]?
 |_=>none
def nQ(σ:St)(id r:Nat)(row:List AV):St :=
 match σ.aa[id]? with
 |some (.var _)=>{ σ with aa:=σ.aa.set id (.var row) }
 |some (.arr sz rows)=>{ σ with aa:=σ.aa.set id (.arr sz (rows.set r row)) }
 |_=>σ
def ml(t:Ty)(cells:List AV)(c:Nat)(K:AV->Prop):Prop :=
 if t.isAgg then c+t.size<=cells.length/\K (.agg ((cells.drop c).take t.size))
 else match cells[c]? with
  |some v=>K v
  |none=>False
def oX:List AV->Option (List Int)
 |[]=>some []
 |.lit (.int .i64 a)::r=>(oX r).map (a::·)
 |_=>none
def vg(P:Program)(t:TypeId)(n:Nat):Prop :=
 ∀ (w:World) (as bs:List Int),as.length=n->bs.length=n ->
  (Op.equalIn 10000 t (.agg (as.map (Value.int .i64)).toArray) (.agg (bs.map (Value.int .i64)).toArray)).run P w=.ok (decide (as=bs)) w
def Bo(k:IntKind)(a b:Int):Int:=k.wrap ((BitVec.ofInt k.bits a &&& BitVec.ofInt k.bits b).toNat)
def Rx(a b:Int):Int:=IntKind.i64.wrap ((BitVec.ofInt 64 a &&& BitVec.ofInt 64 b).toNat)
def Qm(a b:Int):Bo .i64 a b=Rx a b:=by unfold Bo Rx;rfl
def vu(k:IntKind)(a b:Int)(K:Value->Prop):Prop:=if k=.u64 then K (.int k (k.wrap (a*b))) else(k.min<=a*b/\a*b<=k.max)/\K (.int k (a*b))
def tS(k:IntKind)(a:Int)(K:Value->Prop):Prop:=if k=.u64 then K (.int k (k.wrap (-a))) else(k.min<=-a/\-a<=k.max)/\K (.int k (-a))
def Ry{a b:Int}{K:Value->Prop}:vu .i64 a b K=((IntKind.i64.min<=a*b/\a*b<=IntKind.i64.max)/\K (.int .i64 (a*b))):=rfl
def Rz{a b:Int}{K:Value->Prop}:vu .u64 a b K=K (.int .u64 (IntKind.u64.wrap (a*b))):=rfl
def RA{a:Int}{K:Value->Prop}:tS .i64 a K=((IntKind.i64.min<=-a/\-a<=IntKind.i64.max)/\K (.int .i64 (-a))):=rfl
def RB{a:Int}{K:Value->Prop}:tS .u64 a K=K (.int .u64 (IntKind.u64.wrap (-a))):=rfl
def gB(op:BinOp)(k:IntKind)(a b:Int)(K:Value->Prop):Prop :=
 match op with
 |.add=>(k.min<=a+b/\a+b<=k.max)/\K (.int k (a+b))
 |.sub=>(k.min<=a-b/\a-b<=k.max)/\K (.int k (a-b))
 |.mul=>vu k a b K
 |.quo=>(0<=a/\0<b/\a<=k.max)/\K (.int k (a/b))
 |.rem=>b≠0/\K (.int k (a.tmod b))
 |.and=>K (.int k (Bo k a b))
 |.shr=>(0<=b/\b.toNat<=k.bits)/\K (.int k (a/2^b.toNat))
 |.eql=>K (.bool (a==b))
 |.neq=>K (.bool (a != b))
 |.lss=>K (.bool (decide (a<b)))
 |.leq=>K (.bool (decide (a<=b)))
 |.gtr=>K (.bool (decide (a > b)))
 |.geq=>K (.bool (decide (a >= b)))
 |_=>False
def fR(t:Bool):AV->AV->AV
 |.lit (.bool x),.lit (.bool y)=>.lit (.bool (bif t then x else y))
 |a,b=>if t then a else b
def nu(σ:St):AV->Option (Nat×List (List AV))
 |.tree sz rows=>some (sz,rows)
 |.ref id sz off len =>
  match σ.aa[id]? with
  |some (.arr cR rows)=>if cR=sz then some (sz,(rows.drop off).take len) else none
  |_=>none
 |_=>none
def lj(σ:St)(sz:Nat):AV->Option (List (List AV)×St)
 |.lit (.slice none 0 0)=>some ([],σ)
 |.ref id cR off len =>
  match σ.aa[id]? with
  |some (.arr kN rows)=>if kN=cR/\cR=sz then some ((rows.drop off).take len,{ σ with aa:=σ.aa.set id .gone }) else none
  |_=>none
 |_=>none
end Go.Am
namespace Go.Am
variable (P:Program)
def iz(l:List Int):List (List Int×AV)->Nat->Option Nat
 |[],_=>none
 |p::r,i=>if p.1=l then some i else iz l r (i+1)
def mn(l:List Int)(L:List (List Int×AV)):Option AV:=(iz l L 0).bind λi=>(L[i]?).map (·.2)
def eU(l:List Int)(v:AV)(L:List (List Int×AV)):List (List Int×AV) :=
 match iz l L 0 with
 |some i=>L.set i (l,v)
 |none=>L++[(l,v)]
def A5(l:List Int)(L:List (List Int×AV)):Nat:=(iz l L 0).getD L.length
def pZ(n:Nat)(v:AV)(L:List (List Int×AV)):List (List Int×AV):=L.set n ((L.getD n ([],.undef)).1,v)
def jl(P:Program)(t:TypeId)(ag:Nat):Prop:=∃ kt et,P.underlying t=some (.map kt et)/\∀ l:List Int,l.length=kd ag ->
 (∀ e w,(Instr.checkKey e 10000 kt (kV ag l)).run P w=.ok () w)/\(∀ w,(Instr.keyThatStays (kV ag l) (kV ag l)).run P w=.ok (kV ag l) w) /\
 ∀ (f:Nat->Value) (L:List (List Int×AV)) w,(∀ p∈L,p.1.length=kd ag)->(Instr.findKey kt (kV ag l) (cL (cY ag f L)).toList).run P w=.ok ((iz l L 0).map λi=>(i,f i)) w
def zeroV(P:Program)(t:TypeId):Option Value :=
 match P.info? t with
 |some i=>i.zero
 |none=>none
def za(P:Program)(t:TypeId):Nat :=
 match P.underlying t with
 |some (.map kt _)=>if(ty P kt).isAgg then(ty P kt).size else 0
 |_=>0
def keyOf:AV->Option (Nat×List Int)
 |.lit (.int .i64 n)=>some (0,[n])
 |.agg cs=>(oX cs).map λl=>(l.length,l)
 |_=>none
def lI(σ:St):AV->Option (Nat×Nat×List (List Int×AV))
 |.db id =>
  match σ.aa[id]? with
  |some (.mp ag L)=>some (id,ag,L)
  |_=>none
 |_=>none
def JA(s:ByteArray)(n:Nat):Int :=
 match s[n]? with
 |some b=>b.toNat
 |none=>0
def zb(P:Program)(t:TypeId):Bool :=
 match P.underlying t with
 |some (.interface _)=>true
 |some _=>false
 |none=>true
def b9 (o:Oper) (σ:St) (K:St->Prop):Prop :=
  match o.op with
  | .move x | .assign x=>K (σ.put o.dst (ev σ x))
  | .pick c a b =>
    match ev σ c with
    | .lit (.bool t)=>K (σ.put o.dst (fR t (ev σ a) (ev σ b)))
    | _=>False
  | .alloc e =>
    (ty P e).kind≠99 /\
    match (ty P e).zero with
    | some z=>K (({ σ with aa:=σ.aa++[.var (z.map .lit)] }:St).put o.dst (.ptr σ.aa.length 0 0))
    | none=>False
  | .box _ x=>(cellsOf (ev σ x)).all cQ=true/\K (({ σ with aa:=σ.aa++[.var (cellsOf (ev σ x))] }:St).put o.dst (.ptr σ.aa.length 0 0))
  | .build t parts =>
    match (ty P t).kind,(ty P t).zero with
    | 3,some z =>
      match mh (λi=>((ty P t).aN[i]?).map λf=>(f.1,f.2.2)) (z.map .lit) (parts.toList.map λp=>(p.1,ev σ p.2)) with
      | some cs=>((parts.toList.all λp=>(cellsOf (ev σ p.2)).all cQ)=true/\((ty P t).aN.all λf=>decide (0<f.2.2))=true)/\K (σ.put o.dst (.agg cs))
      | none=>False
    | 2,some z =>
      match mh (λi=>some (i * (ty P (ty P t).elem).size,(ty P (ty P t).elem).size)) (z.map .lit) (parts.toList.map λp=>(p.1,ev σ p.2)) with
      | some cs=>((parts.toList.all λp=>(cellsOf (ev σ p.2)).all cQ)=true/\(ty P (ty P t).elem).kind≠99)/\K (σ.put o.dst (.agg cs))
      | none=>False
    | _,_=>False
  | .buildSlice t len parts =>
    match (ty P t).kind,(ty P (ty P t).elem).zero with
    | 1,some z =>
      match mh (λi=>some (i * (ty P (ty P t).elem).size,(ty P (ty P t).elem).size)) ((List.range len).flatMap λ_=>z.map .lit) (parts.toList.map λp=>(p.1,ev σ p.2)) with
      | some cs=>((ty P (ty P t).elem).kind≠99/\0<(ty P (ty P t).elem).size/\z.length=(ty P (ty P t).elem).size/\len * (ty P (ty P t).elem).size<=16777216/\(parts.toList.all λp=>(cellsOf (ev σ p.2)).all cQ)=true) /\
          K (({ σ with aa:=σ.aa++[.arr (ty P (ty P t).elem).size (mj (ty P (ty P t).elem).size len cs)] }:St).put o.dst (.ref σ.aa.length (ty P (ty P t).elem).size 0 len))
      | none=>False
    | _,_=>False
  | .load t a =>
    (ty P t).kind≠99 /\
    match ev σ a with
    | .ptr id r c =>
      match rowOf σ id r with
      | some row=>ml (ty P t) row c λv=>K (σ.put o.dst v)
      | none=>False
    | .cj cells=>ml (ty P t) cells 0 λv=>K (σ.put o.dst v)
    | _=>False
  | .store t a x =>
    (ty P t).kind≠99 /\
    match ev σ a with
    | .ptr id r c =>
      match rowOf σ id r with
      | some row=>((cellsOf (ev σ x)).length=(ty P t).size/\c+(ty P t).size<=row.length/\(cellsOf (ev σ x)).all cQ=true)/\K ((nQ σ id r (setCells row c (cellsOf (ev σ x)))).put o.dst .undef)
      | none=>False
    | _=>False
  | .nilCheck x =>
    match ev σ x with
    | .ptr id r c =>
      match σ.aa[id]? with
      | some .gone=>False
      | some _=>K (σ.put o.dst (.ptr id r c))
      | none=>False
    | .cj cells=>K (σ.put o.dst (.cj cells))
    | _=>False
  | .binOp op t x y _ =>
    match ev σ x,ev σ y with
    | .lit (.int k a),.lit (.int k' b)=>k=k'/\gB op k a b λv=>K (σ.put o.dst (.lit v))
    | .lit (.bool a),.lit (.bool b) =>
      (ty P t).kind=6 /\
      match op with
      | .eql=>K (σ.put o.dst (.lit (.bool (a == b))))
      | .neq=>K (σ.put o.dst (.lit (.bool (a != b))))
      | _=>False
    | .tree _ rows,.lit (.slice none 0 0) =>
      ((ty P t).kind=1/\0<rows.length) /\
      match op with
      | .eql=>K (σ.put o.dst (.lit (.bool false)))
      | .neq=>K (σ.put o.dst (.lit (.bool true)))
      | _=>False
    | .lit (.slice a _ _),.lit (.slice none 0 0) =>
      (ty P t).kind=1 /\
      match op with
      | .eql=>K (σ.put o.dst (.lit (.bool a.isNone)))
      | .neq=>K (σ.put o.dst (.lit (.bool (!a.isNone))))
      | _=>False
    | .agg cs,.agg ds =>
      match oX cs,oX ds with
      | some as,some bs =>
        (vg P t as.length/\bs.length=as.length/\P.eqGuardType P.depth t=false) /\
        match op with
        | .eql=>K (σ.put o.dst (.lit (.bool (decide (as=bs)))))
        | .neq=>K (σ.put o.dst (.lit (.bool (!decide (as=bs)))))
        | _=>False
      | _,_=>False
    | _,_=>False
  | .unOp op _ x =>
    match op,ev σ x with
    | .not,.lit (.bool b)=>K (σ.put o.dst (.lit (.bool !b)))
    | .neg,.lit (.int k a)=>tS k a λv=>K (σ.put o.dst (.lit v))
    | _,_=>False
  | .makeFunc fn first captured =>
    match fn with
    | .func f=>first.size=0/\K (σ.put o.dst (.fn f (captured.toList.map (ev σ))))
    | _=>False
  | .makeSlice t l c =>
    match (ty P t).kind,(ty P (ty P t).elem).zero,ev σ l,ev σ c with
    | 1,some z,.lit (.int k n),.lit (.int k' n') =>
      ((ty P (ty P t).elem).kind≠99/\0<(ty P (ty P t).elem).size/\z.length=(ty P (ty P t).elem).size/\n'=n/\0<=n/\n<=1099511627776/\(ty P (ty P t).elem).bytes<=128/\k=k) /\
        K (({ σ with aa:=σ.aa++[.arr (ty P (ty P t).elem).size (aI n.toNat (z.map .lit))] }:St).put o.dst (.ref σ.aa.length (ty P (ty P t).elem).size 0 n.toNat))/\k'=k'
    | _,_,_,_=>False
  | .slice t x lo hi mx =>
    (ty P t).kind=1/\(ty P (ty P t).elem).kind≠99/\mx=none /\
    match ev σ x with
    | .ref id sz off len =>
      match σ.aa[id]? with
      | some (.arr cR rows) =>
        cR=sz/\sz=(ty P (ty P t).elem).size /\
        match lo.map (ev σ),hi.map (ev σ) with
        | none,none=>K (σ.put o.dst (.ref id sz off len))
        | some (.lit (.int _ l)),none=>(0<=l/\l<=len/\rows.length=rows.length)/\K (σ.put o.dst (.ref id sz (off+l.toNat) (len - l.toNat)))
        | none,some (.lit (.int _ h))=>(0<=h/\h<=len)/\K (σ.put o.dst (.ref id sz off h.toNat))
        | some (.lit (.int _ l)),some (.lit (.int _ h))=>(0<=l/\l<=h/\h<=len)/\K (σ.put o.dst (.ref id sz (off+l.toNat) (h.toNat - l.toNat)))
        | _,_=>False
      | _=>False
    | .tree sz rows =>
        (rows≠[]->sz=(ty P (ty P t).elem).size) /\
        match lo.map (ev σ),hi.map (ev σ) with
        | none,none=>K (σ.put o.dst (.tree sz rows))
        | some (.lit (.int _ l)),none=>(0<=l/\l<=rows.length)/\K (σ.put o.dst (.tree sz (rows.drop l.toNat)))
        | none,some (.lit (.int _ h))=>(0<=h/\h<=rows.length)/\K (σ.put o.dst (.tree sz (rows.take h.toNat)))
        | some (.lit (.int _ l)),some (.lit (.int _ h))=>(0<=l/\l<=h/\h<=rows.length)/\K (σ.put o.dst (.tree sz ((rows.take h.toNat).drop l.toNat)))
        | _,_=>False
    | _=>False
  | .fieldAddr s x f =>
    match (ty P s).kind,(ty P s).aN[f]? with
    | 3,some (off,_,size) =>
      0<size /\
      match ev σ x with
      | .ptr id r c =>
        match σ.aa[id]? with
        | some .gone=>False
        | some _=>K (σ.put o.dst (.ptr id r (c+off)))
        | none=>False
      | .cj cells=>K (σ.put o.dst (.cj (cells.drop off)))
      | _=>False
    | _,_=>False
  | .field s x f =>
    match (ty P s).kind,(ty P s).aN[f]? with
    | 3,some (off,t,size) =>
      (ty P t).kind≠99/\size=(ty P t).size /\
      match ev σ x with
      | .agg cs=>if (ty P t).isAgg then off+size<=cs.length/\K (σ.put o.dst (.agg ((cs.drop off).take size))) else
          match cs[off]? with
          | some v=>K (σ.put o.dst v)
          | none=>False
      | _=>False
    | _,_=>False
  | .indexAddr t x i =>
    match (ty P t).kind,ev σ x,ev σ i with
    | 1,.ref id sz off len,.lit (.int _ n) =>
      match σ.aa[id]? with
      | some (.arr cR _)=>(cR=sz/\sz=(ty P (ty P t).elem).size/\(ty P (ty P t).elem).kind≠99/\0<=n/\n<len)/\K (σ.put o.dst (.ptr id (off+n.toNat) 0))
      | _=>False
    | 1,.tree sz rows,.lit (.int _ n)=>(sz=(ty P (ty P t).elem).size/\(ty P (ty P t).elem).kind≠99/\0<=n/\n<rows.length)/\K (σ.put o.dst (.cj (rows.getD n.toNat [])))
    | 2,.ptr id r c,.lit (.int _ n) =>
      match σ.aa[id]? with
      | some .gone=>False
      | some _=>((ty P (ty P t).elem).kind≠99/\0<=n/\n<(ty P t).len)/\K (σ.put o.dst (.ptr id r (c+n.toNat * (ty P (ty P t).elem).size)))
      | none=>False
    | 2,.cj cells,.lit (.int _ n)=>((ty P (ty P t).elem).kind≠99/\0<=n/\n<(ty P t).len)/\K (σ.put o.dst (.cj (cells.drop (n.toNat * (ty P (ty P t).elem).size))))
    | _,_,_=>False
  | .makeMap t r=>(r=none/\(ty P t).kind=8)/\K (({ σ with aa:=σ.aa++[.mp (za P t) []] }:St).put o.dst (.db σ.aa.length))
  | .lookup t x i ok =>
    match keyOf (ev σ i),lI σ (ev σ x),zeroV P (ty P t).elem with
    | some (ag,l),some (_,iR,L),some z=>(jl P t ag/\iR=ag/\l.length=kd ag/\(ty P t).kind=8/\ok=false)/\K (σ.put o.dst ((mn l L).getD (.lit z)))
    | _,_,_=>False
  | .mapUpdate t m k x =>
    match keyOf (ev σ k),lI σ (ev σ m) with
    | some (ag,l),some (id,iR,L)=>(jl P t ag/\iR=ag/\l.length=kd ag)/\K (({ σ with aa:=σ.aa.set id (.mp ag (eU l (ev σ x) L)) }:St).put o.dst .undef)
    | _,_=>False
  | .mapEntry t m k =>
    match keyOf (ev σ k),lI σ (ev σ m),zeroV P (ty P t).elem with
    | some (ag,l),some (id,iR,L),some z=>(jl P t ag/\iR=ag/\l.length=kd ag/\(ty P t).kind=8) /\
      K (({ σ with aa:=σ.aa.set id (.mp ag (eU l ((mn l L).getD (.lit z)) L)) }:St).put o.dst (.bx [(mn l L).getD (.lit z),.lit (.int .i64 (A5 l L:Nat))]))
    | _,_,_=>False
  | .entryStore _ m s x =>
    match ev σ s,lI σ (ev σ m) with
    | .lit (.int .i64 n),some (id,ag,L)=>(0<=n/\n<L.length)/\K (({ σ with aa:=σ.aa.set id (.mp ag (pZ n.toNat (ev σ x) L)) }:St).put o.dst .undef)
    | _,_=>False
  | .index t x i =>
    match ev σ x,ev σ i with
    | .lit (.string s),.lit (.int _ n)=>(P.underlying t=some .string/\0<=n/\n<s.size)/\K (σ.put o.dst (.lit (.int .u8 (JA s n.toNat))))
    | _,_=>False
  | .makeInterface t x=>zb P t=false/\K (σ.put o.dst (.iv t (ev σ x)))
  | .typeAssert x _ asserted ok =>
    match ev σ x with
    | .iv t v=>(zb P asserted=false/\t=asserted/\ok=false)/\K (σ.put o.dst v)
    | _=>False
  | .extract x i =>
    match ev σ x with
    | .bx vs =>
      match vs[i]? with
      | some v=>K (σ.put o.dst v)
      | none=>False
    | _=>False
  | .call { callee:=.builtin .len,args,argTypes } =>
    match args.toList,argTypes.toList with
    | [x],[t] =>
      match ev σ x with
      | .ref id sz _ len =>
        (ty P t).kind=1 /\
        match σ.aa[id]? with
        | some (.arr cR _)=>cR=sz/\K (σ.put o.dst (.lit (.int .i64 len)))
        | _=>False
      | .tree _ rows=>(ty P t).kind=1/\K (σ.put o.dst (.lit (.int .i64 rows.length)))
      | .lit (.slice none 0 0)=>(ty P t).kind=1/\K (σ.put o.dst (.lit (.int .i64 0)))
      | .db id =>
        (ty P t).kind=8 /\
        match σ.aa[id]? with
        | some (.mp _ L)=>K (σ.put o.dst (.lit (.int .i64 L.length)))
        | _=>False
      | _=>False
    | _,_=>False
  | .call { callee:=.builtin .append,args,argTypes } =>
    match args.toList,argTypes.toList with
    | [s,x],[t,t'] =>
      match (ty P t).kind,(ty P (ty P t).elem).zero,lj σ (ty P (ty P t).elem).size (ev σ s),nu σ (ev σ x) with
      | 1,some z,some (pre,σ1),some (sz,src) =>
        (t'=t/\(ty P (ty P t).elem).kind≠99/\sz=(ty P (ty P t).elem).size/\0<sz/\z.length=sz/\pre.length+src.length<=549755813888/\(ty P (ty P t).elem).bytes<=128/\(src.all λrow=>row.all cQ)=true) /\
          K (({ σ1 with aa:=σ1.aa++[.arr sz (pre++src)] }:St).put o.dst (.ref σ1.aa.length sz 0 (pre.length+src.length)))
      | _,_,_,_=>False
    | _,_=>False
  | .call { callee:=.builtin .min,args,argTypes:=_ } =>
    match args.toList with
    | [x,y] =>
      match ev σ x,ev σ y with
      | .lit (.int k a),.lit (.int k' b)=>k=k'/\K (σ.put o.dst (.lit (.int k (min a b))))
      | _,_=>False
    | _=>False
  | .call { callee:=.builtin .max,args,argTypes:=_ } =>
    match args.toList with
    | [x,y] =>
      match ev σ x,ev σ y with
      | .lit (.int k a),.lit (.int k' b)=>k=k'/\K (σ.put o.dst (.lit (.int k (max a b))))
      | _,_=>False
    | _=>False
  | .call { callee:=.builtin .copy,args,argTypes } =>
    match args.toList,argTypes.toList with
    | [s,x],[t,_] =>
      match ev σ s,nu σ (ev σ x) with
      | .ref id sz off len,some (cR,src) =>
        match σ.aa[id]? with
        | some (.arr kN rows) =>
          ((ty P t).kind=1/\(ty P (ty P t).elem).kind≠99/\cR=sz/\kN=sz/\sz=(ty P (ty P t).elem).size/\0<sz/\(src.all λrow=>row.all cQ)=true) /\
            K (({ σ with aa:=σ.aa.set id (.arr sz (rows.take off++src.take (min src.length len)++rows.drop (off+min src.length len))) }:St).put o.dst (.lit (.int .i64 (min src.length len:Nat))))
        | _=>False
      | _,_=>False
    | _,_=>False
  | .call { callee:=.builtin .clear,args,argTypes } =>
    match args.toList,argTypes.toList with
    | [s],[t] =>
      match ev σ s,(ty P (ty P t).elem).zero with
      | .ref id sz off len,some z =>
        match σ.aa[id]? with
        | some (.arr cR rows) =>
          ((ty P t).kind=1/\(ty P (ty P t).elem).kind≠99/\cR=sz/\z.length=sz/\0<sz/\(z.all λu=>u.oneCell')=true) /\
            K (({ σ with aa:=σ.aa.set id (.arr sz (rows.take off++aI len (z.map AV.lit)++rows.drop (off+len))) }:St).put o.dst (.lit (.tuple #[])))
        | _=>False
      | _,_=>False
    | _,_=>False
  | .convert s d x =>
    match P.underlying d,ev σ x with
    | some (.int k),.lit (.int _ n)=>(P.underlying s).isSome=true/\K (σ.put o.dst (.lit (.int k (k.wrap n))))
    | _,_=>False
  | _=>False
end Go.Am

