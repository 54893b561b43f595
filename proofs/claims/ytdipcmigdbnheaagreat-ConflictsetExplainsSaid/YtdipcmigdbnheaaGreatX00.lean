import Derived.Test.YtdipcmigdbnheaaGreatXAA
import Derived.Orders
import Derived.Laws.AppendOwn
import Derived.Laws.MakeOwn
import Derived.Laws.Slices
import Derived.Laws.Small
set_option linter.all false
set_option maxHeartbeats 0
set_option maxRecDepth 20000
open Nat renaming le_refl→aN,le_trans→j7,lt_of_lt_of_le→J9,ne_of_lt→nI,lt_or_ge→fK,mul_le_mul_right→oV,add_mul→gR,add_assoc→yH,add_zero→iS,mul_comm→tA
open List renaming getElem?_eq_some_iff→a8,getElem?_append_left→cT,getElem?_set→cA,range→aW,replicate→bH,mem_of_getElem?→iD,length_cons→eB,getElem?_take→vS,getElem?_drop→qc,getD_eq_getElem?_getD→aA,getElem?_append_right→fV
open Array renaming getD_eq_getD_getElem?→gm,getElem?_eq_some_iff→qf
open Option renaming bind_eq_some_iff→yE
namespace Go.Am
inductive AV where
 |undef
 |lit (v:Value)
 |tree (sz:Nat) (rows:List (List AV))
 |cq (cells:List AV)
 |ref (id sz off len:Nat)
 |ptr (id r c:Nat)
 |agg (cs:List AV)
 |bJ (vs:List AV)
 |fn (f:FuncId) (bj:List AV)
 |jl (t:TypeId) (v:AV)
 |iV (id:Nat)
 deriving Inhabited
abbrev aaC(n:Int):AV:=.lit (.int .i64 n)
inductive Ob where
 |gone
 |var (cells:List AV)
 |arr (sz:Nat) (rows:List (List AV))
 |mp (ag:Nat) (L:List (List Int×AV))
 deriving Inhabited
structure St where
 env:Nat->AV
 aa:List Ob
def j8(e:Nat->AV)(d:Nat)(v:AV):Nat->AV:=λk=>if k=d then v else e k
def cellAt(rows:List (List AV))(r c:Nat):Option AV:=(rows[r]?).bind (·[c]?)
def dT(ents:List (Value×Value)):Array MapEntry:=(ents.mapIdx λi p=>(⟨p.1,p.2,i⟩:MapEntry)).toArray
def kV(ag:Nat)(l:List Int):Value:=if ag=0 then .int .i64 (l.headD 0) else .agg (l.map λn=>.int .i64 n).toArray
def lj(ag:Nat):Nat:=if ag=0 then 1 else ag
def eD(ag:Nat)(f:Nat->Value)(L:List (List Int×AV)):List (Value×Value):=L.mapIdx λj p=>(kV ag p.1,f j)
def KS(ag:Nat)(f:Nat->Value)(g:AV->AV)(L:List (List Int×AV)):eD ag f (L.map λp=>(p.1,g p.2))=eD ag f L:=by
 unfold eD;apply List.ext_getElem
 ·simp
 ·intros;simp
abbrev iG:=Nat->Option (Nat×Nat×Nat)
inductive jf(w:World)(Z:Nat->Prop):AV->Value->Prop where
 |lit (v:Value):jf w Z (.lit v) v
 |nil (sz cap:Nat) (a:Option Addr):jf w Z (.tree sz []) (.slice a 0 cap)
 |tree (sz:Nat) (rows:List (List AV)) (b o cap:Nat) (f:Nat->Nat->Value) (hz:Z b) (hr:∀ row∈rows,row.length=sz) (Ej:rows.length<=cap)
   (hc:∀ r c x,cellAt rows r c=some x->w.cell? ⟨b,o+(r*sz+c),none⟩=some (f r c))
   (ht:∀ r c x,cellAt rows r c=some x->jf w Z x (f r c)):jf w Z (.tree sz rows) (.slice (some ⟨b,o,none⟩) rows.length cap)
inductive aC(os:List Ob)(w:World)(Z:Nat->Prop)(blk:iG):AV->Value->Prop where
 |undef (cv:Value):aC os w Z blk .undef cv
 |cC (v:AV) (cv:Value) (h:jf w Z v cv):aC os w Z blk v cv
 |cq (cells:List AV) (b o:Nat) (f:Nat->Value) (hz:Z b) (hc:∀ j x,cells[j]?=some x->w.cell? ⟨b,o+j,none⟩=some (f j))
   (ht:∀ j x,cells[j]?=some x->jf w Z x (f j)):aC os w Z blk (.cq cells) (.pointer (some ⟨b,o,none⟩))
 |mh (id sz off len:Nat) (cv:Value) (h:os[id]?=some .gone) (h1:cv.oneCell'=true):aC os w Z blk (.ref id sz off len) cv
 |ov (id r c:Nat) (cv:Value) (h:os[id]?=some .gone) (h1:cv.oneCell'=true):aC os w Z blk (.ptr id r c) cv
 |ref (id sz off len b o cap cap':Nat) (rows:List (List AV)) (h:os[id]?=some (.arr sz rows)) (hb:blk id=some (b,o,cap))
   (hl:off+len<=rows.length) (hc:off+cap'<=cap) (lh:len<=cap'):aC os w Z blk (.ref id sz off len) (.slice (some ⟨b,o+off*sz,none⟩) len cap')
 |nN (id sz:Nat) (h:os[id]?=some (.arr sz [])) (hb:blk id=none):aC os w Z blk (.ref id sz 0 0) (.slice none 0 0)
 |ow (id sz off b x:Nat) (bo:Nat×Nat) (rows:List (List AV)) (h:os[id]?=some (.arr sz rows)) (hb:blk id=some (b,bo)) (hl:off<=rows.length) :
   aC os w Z blk (.ref id sz off 0) (.slice (some ⟨b,x,none⟩) 0 0)
 |oZ (id c b cap:Nat) (cells:List AV) (h:os[id]?=some (.var cells)) (hb:blk id=some (b,0,cap)):aC os w Z blk (.ptr id 0 c) (.pointer (some ⟨b,c,none⟩))
 |pJ (id r c sz b o cap:Nat) (rows:List (List AV)) (h:os[id]?=some (.arr sz rows)) (hb:blk id=some (b,o,cap)) :
   aC os w Z blk (.ptr id r c) (.pointer (some ⟨b,o+(r*sz+c),none⟩))
 |agg (cs:List AV) (bG:Array Value) (hs:bG.size=cs.length) (h:∀ j x,cs[j]?=some x->aC os w Z blk x (bG.getD j Go.undef)):aC os w Z blk (.agg cs) (.agg bG)
 |bJ (cs:List AV) (bG:Array Value) (hs:bG.size=cs.length) (h:∀ j x,cs[j]?=some x->aC os w Z blk x (bG.getD j Go.undef)):aC os w Z blk (.bJ cs) (.tuple bG)
 |fn (f:FuncId) (cs:List AV) (bG:Array Value) (hs:bG.size=cs.length) (h:∀ j x,cs[j]?=some x->aC os w Z blk x (bG.getD j Go.undef)) :
   aC os w Z blk (.fn f cs) (.func (.func f) #[] bG)
 |jl (t:TypeId) (v:AV) (cv:Value) (h:aC os w Z blk v cv):aC os w Z blk (.jl t v) (.iface t cv)
 |iV (id b:Nat) (ag:Nat) (L:List (List Int×AV)) (h:os[id]?=some (.mp ag L)) (hb:blk id=some (b,0,0)):aC os w Z blk (.iV id) (.map (some b))
 |sN (id:Nat) (cv:Value) (h:os[id]?=some .gone) (h1:cv.oneCell'=true):aC os w Z blk (.iV id) cv
def AD (os:List Ob) (w:World) (Z:Nat->Prop) (blk:iG) (i:Nat):Ob->Prop
  | .gone=>True
  | .var cells=>∃ b cap cur t,blk i=some (b,0,cap)/\w.heap[b]?=some (.cells cur t (0,0))/\cur.size=cells.length /\
      ∀ c v,cells[c]?=some v->aC os w Z blk v (cur.getD c Go.undef)
  | .arr sz rows=>0<sz/\(∀ row∈rows,row.length=sz) /\
      ((blk i=none/\rows=[])\/∃ b o cap cur t,blk i=some (b,o,cap)/\w.heap[b]?=some (.cells cur t (0,0))/\o+cap * sz<=cur.size/\rows.length<=cap/\cap<=maxLen /\
        ∀ r c v,cellAt rows r c=some v->aC os w Z blk v (cur.getD (o+(r * sz+c)) Go.undef))
  | .mp ag L=>∃ b,∃ f:Nat->Value,blk i=some (b,0,0)/\w.heap[b]?=some (.map (dT (eD ag f L)) L.length)/\(∀ p∈L,p.1.length=lj ag)/\∀ (j:Nat) p,L[j]?=some p->aC os w Z blk p.2 (f j)
structure Cx where
 w:World
 tmps:Array Value
 Z:Nat->Prop
 blk:iG
def Live(os:List Ob)(i:Nat):Prop:=∃ o,os[i]?=some o/\o≠.gone
def qz(os:List Ob)(blk:iG)(b:Nat):Prop:=∃ i o cap,Live os i/\blk i=some (b,o,cap)
structure bS(σ:St)(γ:Cx):Prop where
 aw:∀ k,aC σ.aa γ.w γ.Z γ.blk (σ.env k) (γ.tmps.getD k Go.undef)
 fL:∀ (i:Nat) o,σ.aa[i]?=some o->AD σ.aa γ.w γ.Z γ.blk i o
 inj:∀ i j b o c o' c',Live σ.aa i->Live σ.aa j->γ.blk i=some (b,o,c)->γ.blk j=some (b,o',c')->i=j
 nz:∀ b,qz σ.aa γ.blk b->¬ γ.Z b
 jh:∀ b,γ.Z b->b<γ.w.heap.size
def Ob.fB:Ob->Ob->Prop
 |.var a,.var b=>a.length=b.length
 |.arr s a,.arr s' b=>s=s'/\a.length=b.length
 |.mp a _,.mp b _=>a=b
 |_,_=>False
def Ob.lk{o:Ob}(h:o≠.gone):o.fB o:=by
 cases o<;>simp_all [Ob.fB]
def Ob.Lu{a b c:Ob}(h:a.fB b)(k:b.fB c):a.fB c:=by
 cases a<;>cases b<;>cases c<;>simp_all [Ob.fB]
def Ob.ae'{a b:Ob}(h:a.fB b):a≠.gone/\b≠.gone:=by
 cases a<;>cases b<;>simp_all [Ob.fB]
structure Fr(Ca:List Ob)(rO:Cx)(os:List Ob)(γ:Cx):Prop where
 oh:γ.w.os=rO.w.os
 tape:γ.w.tape=rO.w.tape
 output:γ.w.output=rO.w.output
 size:rO.w.heap.size<=γ.w.heap.size
 az:∀ b,b<rO.w.heap.size->¬ qz Ca rO.blk b->γ.w.heap[b]?=rO.w.heap[b]?
 z0:∀ b,rO.Z b->γ.Z b
 z1:∀ b,γ.Z b->rO.Z b\/qz Ca rO.blk b\/rO.w.heap.size<=b
 own:∀ b,qz os γ.blk b->qz Ca rO.blk b\/rO.w.heap.size<=b
 len:Ca.length<=os.length
 mL:∀ i,i<Ca.length->Live os i->γ.blk i=rO.blk i/\∃ o o',Ca[i]?=some o/\os[i]?=some o'/\o.fB o'
def Fr.refl(os:List Ob)(γ:Cx):Fr os γ os γ :=
 ⟨rfl,rfl,rfl,aN _,λ_ _ _=>rfl,λ_ h=>h,λ_ h=>.inl h,λ_ h=>.inl h,aN _,λ_ _ ⟨o,ho,hg⟩=>⟨rfl,o,o,ho,ho,Ob.lk hg⟩⟩
def Fr.trans{a b c:List Ob}{x y z:Cx}(h:Fr a x b y)(k:Fr b y c z):Fr a x c z where
 oh:=k.oh.trans h.oh
 tape:=k.tape.trans h.tape
 output:=k.output.trans h.output
 size:=j7 h.size k.size
 az:=λn hn ho=>(k.az n (J9 hn h.size) (λhw=>(h.own n hw).elim ho (λhl=>GC))).trans (h.az n hn ho)
 z0:=λn hn=>k.z0 n (h.z0 n hn)
 z1:=λn hn=>by
  rcases k.z1 n hn with h1|h1|h1
  ·exact h.z1 n h1
  ·rcases h.own n h1 with h2|h2
   ·exact .inr (.inl h2)
   ·exact .inr (.inr h2)
  ·exact .inr (.inr (j7 h.size h1))
 own:=λn hn=>by
  rcases k.own n hn with h1|h1
  ·exact h.own n h1
  ·exact .inr (j7 h.size h1)
 len:=j7 h.len k.len
 mL:=λi hi hl=>by
  obtain⟨h1,o,o',ho,cG,hk⟩:=k.mL i (J9 hi h.len) hl;obtain⟨h3,x,x',hx,dw,aK⟩:=h.mL i hi ⟨o,ho,(Ob.ae' hk).1⟩;rw[ho]at dw;simp at dw;subst dw;exact⟨h1.trans h3,x,o',hx,cG,Ob.Lu aK hk⟩
def R5{w w':World}{b o:Nat}(h:w'.heap[b]?=w.heap[b]?):w'.cell? ⟨b,o,none⟩=w.cell? ⟨b,o,none⟩:=by
 simp[World.cell?,h]
def jf.mono{w w':World}{Z Z':Nat->Prop}{v:AV}{cv:Value}(h:jf w Z v cv)(hz:∀ b,Z b->Z' b/\w'.heap[b]?=w.heap[b]?):jf w' Z' v cv:=by
 induction h with
 |lit v=>exact .lit v
 |nil sz cap a=>exact .nil sz cap a
 |tree sz rows b o cap f xC hr Ej hc _ ih =>
  exact .tree sz rows b o cap f (hz b xC).1 hr Ej (λr c x hx=>by rw[R5 (hz b xC).2];exact hc r c x hx) ih
def aC.mono{os os':List Ob}{w w':World}{Z Z':Nat->Prop}{blk lJ:iG}{v:AV}{cv:Value}(h:aC os w Z blk v cv)(hz:∀ b,Z b->Z' b/\w'.heap[b]?=w.heap[b]?)(ho:∀ i o,os[i]?=some o->os'[i]?=some .gone\/(lJ i=blk i/\∃ o',os'[i]?=some o'/\o.fB o')):aC os' w' Z' lJ v cv:=by
 induction h with
 |undef cv=>exact .undef cv
 |cC v cv h=>exact .cC v cv (h.mono hz)
 |cq cells b o f xC hc ht =>
  exact .cq cells b o f (hz b xC).1 (λj x hx=>by rw[R5 (hz b xC).2];exact hc j x hx) (λj x hx=>(ht j x hx).mono hz)
 |mh id sz off len cv h h1 =>
  rcases ho id _ h with h'|⟨_,o',_,hl⟩
  ·exact .mh id sz off len cv h' h1
  ·exact absurd hl (by simp[Ob.fB])
 |ov id r c cv h h1 =>
  rcases ho id _ h with h'|⟨_,o',_,hl⟩
  ·exact .ov id r c cv h' h1
  ·exact absurd hl (by simp[Ob.fB])
 |ref id sz off len b o cap cap' rows h hb hl hc lh =>
  rcases ho id _ h with h'|⟨ik,o',cG,hk⟩
  ·exact .mh _ _ _ _ _ h' rfl
  ·cases o'<;>simp[Ob.fB]at hk;obtain⟨rfl,hk⟩:=hk;exact .ref id sz off len b o cap cap' _ cG (ik.trans hb) GC hc lh
 |nN id sz h hb =>
  rcases ho id _ h with h'|⟨ik,o',cG,hk⟩
  ·exact .mh _ _ _ _ _ h' rfl
  ·cases o'<;>simp[Ob.fB]at hk;obtain⟨rfl,hk⟩:=hk;have aK:=List.eq_nil_of_length_eq_zero hk.symm;subst aK;exact .nN id sz cG (ik.trans hb)
 |ow id sz off b x bo rows h hb hl =>
  rcases ho id _ h with h'|⟨ik,o',cG,hk⟩
  ·exact .mh _ _ _ _ _ h' rfl
  ·cases o'<;>simp[Ob.fB]at hk;obtain⟨rfl,hk⟩:=hk;exact .ow id sz off b x bo _ cG (ik.trans hb) GC
 |oZ id c b cap cells h hb =>
  rcases ho id _ h with h'|⟨ik,o',cG,hk⟩
  ·exact .ov _ _ _ _ h' rfl
  ·cases o'<;>simp[Ob.fB]at hk;exact .oZ id c b cap _ cG (ik.trans hb)
 |pJ id r c sz b o cap rows h hb =>
  rcases ho id _ h with h'|⟨ik,o',cG,hk⟩
  ·exact .ov _ _ _ _ h' rfl
  ·cases o'<;>simp[Ob.fB]at hk;obtain⟨rfl,hk⟩:=hk;exact .pJ id r c sz b o cap _ cG (ik.trans hb)
 |agg cs bG hs _ ih=>exact .agg cs bG hs ih
 |bJ cs bG hs _ ih=>exact .bJ cs bG hs ih
 |fn f cs bG hs _ ih=>exact .fn f cs bG hs ih
 |jl t v cv _ ih=>exact .jl t v cv ih
 |iV id b ag L h hb =>
  rcases ho id _ h with h'|⟨ik,o',cG,hk⟩
  ·exact .sN _ _ h' rfl
  ·cases o'<;>simp[Ob.fB]at hk;subst hk;exact .iV id b _ _ cG (ik.trans hb)
 |sN id cv h h1 =>
  rcases ho id _ h with h'|⟨_,o',cG,hk⟩
  ·exact .sN _ _ h' h1
  ·cases o'<;>simp[Ob.fB]at hk
def Live.lt{os:List Ob}{i:Nat}(h:Live os i):i<os.length:=by
 obtain⟨o,ho,_⟩:=h;exact(a8.1 ho).1
def aC.same{os:List Ob}{w w':World}{Z:Nat->Prop}{blk:iG}{v:AV}{cv:Value}(h:aC os w Z blk v cv)(hw:w'.heap=w.heap):aC os w' Z blk v cv :=
 h.mono (λb hb=>⟨hb,by rw[hw]⟩) (λi o ho=>by
  by_cases hg:o=.gone
  ·subst hg;exact .inl ho
  ·exact .inr ⟨rfl,o,ho,Ob.lk hg⟩)
def AD.mono{os os':List Ob}{w w':World}{Z Z':Nat->Prop}{blk lJ:iG}{i:Nat}{o:Ob}(h:AD os w Z blk i o)(hR:∀ v cv,aC os w Z blk v cv->aC os' w' Z' lJ v cv)(hb:lJ i=blk i)(hk:∀ b o c,blk i=some (b,o,c)->w'.heap[b]?=w.heap[b]?):AD os' w' Z' lJ i o:=by
 cases o with
 |gone=>trivial
 |var cells =>
  obtain⟨b,cap,cur,t,h1,h2,h3,h4⟩:=h;exact⟨b,cap,cur,t,hb.trans h1,(hk _ _ _ h1).trans h2,h3,λc v hv=>hR _ _ (h4 c v hv)⟩
 |arr sz rows =>
  obtain⟨h0,hr,h⟩:=h;refine⟨h0,hr,?_⟩;rcases h with⟨h1,h2⟩|⟨b,o,cap,cur,t,h1,h2,h3,h4,h5,h6⟩
  ·exact .inl ⟨hb.trans h1,h2⟩
  ·exact .inr ⟨b,o,cap,cur,t,hb.trans h1,(hk _ _ _ h1).trans h2,h3,h4,h5,λr c v hv=>hR _ _ (h6 r c v hv)⟩
 |mp ag L =>
  obtain⟨b,f,h1,h2,h3,h4⟩:=h;exact⟨b,f,hb.trans h1,(hk _ _ _ h1).trans h2,h3,λj p hp=>hR _ _ (h4 j p hp)⟩
def bS.put{σ:St}{γ:Cx}(h:bS σ γ)(d:Nat)(hd:d<γ.tmps.size){v:AV}{cv:Value}(hv:aC σ.aa γ.w γ.Z γ.blk v cv):
  bS { σ with env:=j8 σ.env d v } { γ with tmps:=γ.tmps.setIfInBounds d cv } where
 aw:=λk=>by
  simp only[j8];by_cases hk:k=d
  ·subst hk;simp[gm,hd];exact hv
  ·simp only[hk,if_false,gm,Array.getElem?_setIfInBounds_ne (Ne.symm hk)];have:=h.aw k;simpa [gm] using this
 fL:=h.fL
 inj:=h.inj
 nz:=h.nz
 jh:=h.jh
def bS.KY{σ:St}{γ:Cx}(h:bS σ γ){w':World}(hw:w'.heap=γ.w.heap):bS σ { γ with w:=w' } where
 aw:=λk=>(h.aw k).same hw
 fL:=λi o ho=>(h.fL i o ho).mono (λv cv hv=>hv.same hw) rfl (λb _ _ _=>by rw[hw])
 inj:=h.inj
 nz:=h.nz
 jh:=λb hb=>by have:=h.jh b hb;simpa [hw] using this
def Fr.KY{a b:List Ob}{x y:Cx}(h:Fr a x b y){w':World}(hw:w'.heap=y.w.heap)(h1:w'.os=y.w.os)(h2:w'.tape=y.w.tape)(h3:w'.output=y.w.output):
  Fr a x b { y with w:=w' } :=
 h.trans ⟨h1,h2,h3,by simp[hw],λ_ _ _=>by simp[hw],λ_ h=>h,λ_ h=>.inl h,λ_ h=>.inl h,aN _,λ_ _ ⟨o,ho,hg⟩=>⟨rfl,o,o,ho,ho,Ob.lk hg⟩⟩
def Fr.put{a b:List Ob}{x y:Cx}(h:Fr a x b y)(t:Array Value):Fr a x b { y with tmps:=t }:=⟨h.oh,h.tape,h.output,h.size,h.az,h.z0,h.z1,h.own,h.len,h.mL⟩
def dL(blk:iG)(n:Nat)(x:Option (Nat×Nat×Nat)):iG:=λi=>if i=n then x else blk i
def uV(os:List Ob)(w:World)(Z:Nat->Prop)(blk:iG)(o cap:Nat)(cur:Array Value):Ob->Prop
 |.gone=>True
 |.var cells=>o=0/\cur.size=cells.length/\∀ c v,cells[c]?=some v->aC os w Z blk v (cur.getD c Go.undef)
 |.arr sz rows=>0<sz/\(∀ row∈rows,row.length=sz)/\o+cap*sz<=cur.size/\rows.length<=cap/\cap<=maxLen /\
    ∀ r c v,cellAt rows r c=some v->aC os w Z blk v (cur.getD (o+(r*sz+c)) Go.undef)
 |.mp _ _=>False
def uV.Lv{os os':List Ob}{w w':World}{Z Z':Nat->Prop}{blk lJ:iG}{i b o cap:Nat}{cur:Array Value}{t:TypeId}{ob:Ob}(h:uV os w Z blk o cap cur ob)(hR:∀ v cv,aC os w Z blk v cv->aC os' w' Z' lJ v cv)(hb:lJ i=some (b,o,cap))(hk:w'.heap[b]?=some (.cells cur t (0,0))):AD os' w' Z' lJ i ob:=by
 cases ob with
 |gone=>trivial
 |var cells =>
  obtain⟨h0,h1,h2⟩:=h;subst h0;exact⟨b,cap,cur,t,hb,hk,h1,λc v hv=>hR _ _ (h2 c v hv)⟩
 |arr sz rows =>
  obtain⟨h0,h1,h2,h3,h4,h5⟩:=h;exact⟨h0,h1,.inr ⟨b,o,cap,cur,t,hb,hk,h2,h3,h4,λr c v hv=>hR _ _ (h5 r c v hv)⟩⟩
 |mp ag L=>exact h.elim
def bS.D7{σ:St}{γ:Cx}(h:bS σ γ){w':World}{x:Obj}{cap:Nat}{ob:Ob}(hw:w'.heap=γ.w.heap.push x)(bk:∀ os' w' lJ,(∀ v cv,aC σ.aa γ.w γ.Z γ.blk v cv->aC os' w' γ.Z lJ v cv)->lJ σ.aa.length=some (γ.w.heap.size,0,cap)->w'.heap[γ.w.heap.size]?=some x->AD os' w' γ.Z lJ σ.aa.length ob):
  bS { σ with aa:=σ.aa++[ob] } { γ with w:=w',blk:=dL γ.blk σ.aa.length (some (γ.w.heap.size,0,cap)) }:=by
 have br:∀ b,b<γ.w.heap.size->w'.heap[b]?=γ.w.heap[b]?:=λb hb=>by
  rw[hw,Array.getElem?_push,if_neg GC]
 have hR:∀ v cv,aC σ.aa γ.w γ.Z γ.blk v cv->aC (σ.aa++[ob]) w' γ.Z (dL γ.blk σ.aa.length (some (γ.w.heap.size,0,cap))) v cv:=λv cv hv =>
  hv.mono (λb hb=>⟨hb,br b (h.jh b hb)⟩) (λi o ho=>by
   have hi:i<σ.aa.length:=(a8.1 ho).1;have cG:(σ.aa++[ob])[i]?=some o:=by rw[cT hi];exact ho
   by_cases bP:o=.gone
   ·subst bP;exact .inl cG
   ·exact .inr ⟨by simp[dL,nI hi],o,cG,Ob.lk bP⟩)
 have cY:∀ i,Live (σ.aa++[ob]) i->i=σ.aa.length\/Live σ.aa i:=by
  rintro i⟨o,ho,bP⟩;rcases fK i σ.aa.length with hi|hi
  ·rw[cT hi]at ho;exact .inr ⟨o,ho,bP⟩
  ·left;have:=(a8.1 ho).1;simp at this;omega
 have qx:∀ i b o c,Live σ.aa i->γ.blk i=some (b,o,c)->b<γ.w.heap.size:=by
  rintro i b o c⟨x,hx,eJ⟩hb;have:=h.fL i x hx;cases x with
  |gone=>exact absurd rfl eJ
  |var cells =>
   obtain⟨b',cap',qE,t',h1,h2,_⟩:=this;rw[hb]at h1;simp at h1;obtain⟨rfl,_⟩:=h1;exact(qf.1 h2).1
  |arr sz rows =>
   obtain⟨_,_,⟨h1,_⟩|⟨b',o',cap',qE,t',h1,h2,_⟩⟩:=this
   ·rw[hb]at h1;simp at h1
   ·rw[hb]at h1;simp at h1;obtain⟨rfl,_⟩:=h1;exact(qf.1 h2).1
  |mp ag L =>
   obtain⟨b',f',h1,h2,_⟩:=this;rw[hb]at h1;simp at h1;obtain⟨rfl,_⟩:=h1;exact(qf.1 h2).1
 refine⟨λk=>hR _ _ (h.aw k),?_,?_,?_,?_⟩
 ·intro i o ho;rcases fK i σ.aa.length with hi|hi
  ·have cG:σ.aa[i]?=some o:=by rw[cT hi]at ho;exact ho
   by_cases bP:o=.gone
   ·subst bP;trivial
   ·refine(h.fL i o cG).mono hR (by simp[dL,nI hi]) (λb x c hb=>br b (qx i b x c ⟨o,cG,bP⟩ hb))
  ·have hi':i=σ.aa.length:=by
    have:=(a8.1 ho).1;simp at this;omega
   subst hi';simp at ho;subst ho;exact bk _ _ _ hR (by simp[dL]) (by rw[hw];simp)
 ·intro i j b o c o' c' hi hj iw iW;simp only[dL]at iw iW;rcases cY i hi with rfl|hi'<;>rcases cY j hj with rfl|db
  ·rfl
  ·rw[if_pos rfl]at iw;rw[if_neg (nI db.lt)]at iW;have:=qx _ _ _ _ db iW;simp at iw;omega
  ·rw[if_pos rfl]at iW;rw[if_neg (nI hi'.lt)]at iw;have:=qx _ _ _ _ hi' iw;simp at iW;omega
  ·rw[if_neg (nI db.lt)]at iW;rw[if_neg (nI hi'.lt)]at iw;exact h.inj i j b o c o' c' hi' db iw iW
 ·rintro b ⟨i,o,c,hi,hb⟩ hz;simp only[dL]at hb;rcases cY i hi with rfl|hi'
  ·rw[if_pos rfl]at hb;simp at hb;have:=h.jh b hz;omega
  ·rw[if_neg (nI hi'.lt)]at hb;exact h.nz b ⟨i,o,c,hi',hb⟩ hz
 ·intro b hb;have:=h.jh b hb;rw[hw];simp;omega
def bS.push{σ:St}{γ:Cx}(h:bS σ γ){w':World}{cur:Array Value}{t:TypeId}{cap:Nat}{ob:Ob}(hw:w'.heap=γ.w.heap.push (.cells cur t (0,0)))(bk:uV σ.aa γ.w γ.Z γ.blk 0 cap cur ob):
  bS { σ with aa:=σ.aa++[ob] } { γ with w:=w',blk:=dL γ.blk σ.aa.length (some (γ.w.heap.size,0,cap)) } :=
 h.D7 hw λ_ _ _ hR hb hk=>bk.Lv hR hb hk
def bS.blt{σ:St}{γ:Cx}(h:bS σ γ){i b o c:Nat}(hl:Live σ.aa i)(hb:γ.blk i=some (b,o,c)):b<γ.w.heap.size:=by
 obtain⟨x,hx,eJ⟩:=hl;have:=h.fL i x hx;cases x with
 |gone=>exact absurd rfl eJ
 |var cells =>
  obtain⟨b',cap',qE,t',h1,h2,_⟩:=this;rw[hb]at h1;simp at h1;obtain⟨rfl,_⟩:=h1;exact(qf.1 h2).1
 |arr sz rows =>
  obtain⟨_,_,⟨h1,_⟩|⟨b',o',cap',qE,t',h1,h2,_⟩⟩:=this
  ·rw[hb]at h1;simp at h1
  ·rw[hb]at h1;simp at h1;obtain⟨rfl,_⟩:=h1;exact(qf.1 h2).1
 |mp ag L =>
  obtain⟨b',f',h1,h2,_⟩:=this;rw[hb]at h1;simp at h1;obtain⟨rfl,_⟩:=h1;exact(qf.1 h2).1
def Fr.D7{σ:St}{γ:Cx}{w':World}{x0:Obj}{cap:Nat}(ob:Ob)(hw:w'.heap=γ.w.heap.push x0)(h1:w'.os=γ.w.os)(h2:w'.tape=γ.w.tape)(h3:w'.output=γ.w.output):
  Fr σ.aa γ (σ.aa++[ob]) { γ with w:=w',blk:=dL γ.blk σ.aa.length (some (γ.w.heap.size,0,cap)) } where
 oh:=h1
 tape:=h2
 output:=h3
 size:=by rw[hw];simp
 az:=λb hb _=>by simp only[hw,Array.getElem?_push];rw[if_neg GC]
 z0:=λ_ h=>h
 z1:=λ_ h=>.inl h
 own:=by
  rintro b⟨i,o,c,⟨x,hx,eJ⟩,hb⟩;simp only[dL]at hb;split at hb
  ·simp at hb;right;omega
  ·rename_i dO;have hi:i<σ.aa.length:=by have:=(a8.1 hx).1;simp at this;omega
   rw[cT hi]at hx;exact .inl ⟨i,o,c,⟨x,hx,eJ⟩,hb⟩
 len:=GF
 mL:=by
  rintro i hi⟨x,hx,eJ⟩;have hx0:=hx;rw[cT hi]at hx;exact⟨by simp[dL,nI hi],x,x,hx,hx0,Ob.lk eJ⟩
def Fr.push{σ:St}{γ:Cx}{w':World}{cur:Array Value}{t:TypeId}{cap:Nat}(ob:Ob)(hw:w'.heap=γ.w.heap.push (.cells cur t (0,0)))(h1:w'.os=γ.w.os)(h2:w'.tape=γ.w.tape)(h3:w'.output=γ.w.output):
  Fr σ.aa γ (σ.aa++[ob]) { γ with w:=w',blk:=dL γ.blk σ.aa.length (some (γ.w.heap.size,0,cap)) }:=Fr.D7 ob hw h1 h2 h3
def bS.kill{σ:St}{γ:Cx}(h:bS σ γ)(id:Nat):bS { σ with aa:=σ.aa.set id .gone } γ:=by
 have hR:∀ v cv,aC σ.aa γ.w γ.Z γ.blk v cv->aC (σ.aa.set id .gone) γ.w γ.Z γ.blk v cv:=λv cv hv =>
  hv.mono (λb hb=>⟨hb,rfl⟩) (λi o ho=>by
   have hi:i<σ.aa.length:=(a8.1 ho).1;rw[cA];by_cases oB:id=i
   ·left;simp[oB,hi]
   ·rw[if_neg oB];by_cases bP:o=.gone
    ·subst bP;exact .inl ho
    ·exact .inr ⟨rfl,o,ho,Ob.lk bP⟩)
 have cY:∀ i,Live (σ.aa.set id .gone) i->Live σ.aa i:=by
  rintro i⟨o,ho,bP⟩;rw[cA]at ho;split at ho
  ·split at ho<;>simp at ho;exact absurd ho.symm bP
  ·exact⟨o,ho,bP⟩
 refine⟨λk=>hR _ _ (h.aw k),?_,λi j b o c o' c' hi hj=>h.inj i j b o c o' c' (cY i hi) (cY j hj),?_,h.jh⟩
 ·intro i o ho;rw[cA]at ho;split at ho
  ·split at ho<;>simp at ho;subst ho;trivial
  ·exact(h.fL i o ho).mono hR rfl (λ_ _ _ _=>rfl)
 ·rintro b ⟨i,o,c,hi,hb⟩;exact h.nz b ⟨i,o,c,cY i hi,hb⟩
def Fr.kill(os:List Ob)(γ:Cx)(id:Nat):Fr os γ (os.set id .gone) γ where
 oh:=rfl
 tape:=rfl
 output:=rfl
 size:=aN _
 az:=λ_ _ _=>rfl
 z0:=λ_ h=>h
 z1:=λ_ h=>.inl h
 own:=by
  rintro b⟨i,o,c,⟨x,hx,eJ⟩,hb⟩;rw[cA]at hx;split at hx
  ·split at hx<;>simp at hx;exact absurd hx.symm eJ
  ·exact .inl ⟨i,o,c,⟨x,hx,eJ⟩,hb⟩
 len:=GF
 mL:=by
  rintro i hi⟨x,hx,eJ⟩;have hx0:=hx;rw[cA]at hx;split at hx
  ·split at hx<;>simp at hx;exact absurd hx.symm eJ
  ·exact⟨rfl,x,x,hx,hx0,Ob.lk eJ⟩
def bS.Ht{σ:St}{γ:Cx}(h:bS σ γ){id:Nat}{ob ob':Ob}(ho:σ.aa[id]?=some ob)(hg:ob≠.gone)(iX:ob.fB ob'){b o cap:Nat}(hb:γ.blk id=some (b,o,cap)){w':World}(pL:∀ k,k≠b->w'.heap[k]?=γ.w.heap[k]?)(bx:w'.heap.size=γ.w.heap.size)(bk:∀ os',(∀ v cv,aC σ.aa γ.w γ.Z γ.blk v cv->aC os' w' γ.Z γ.blk v cv)->AD os' w' γ.Z γ.blk id ob'):bS { σ with aa:=σ.aa.set id ob' } { γ with w:=w' }:=by
 have dt:id<σ.aa.length:=(a8.1 ho).1;have qD:Live σ.aa id:=⟨ob,ho,hg⟩;have tJ:ob'≠.gone:=by intro e;subst e;cases ob<;>simp[Ob.fB]at iX
 have hR:∀ v cv,aC σ.aa γ.w γ.Z γ.blk v cv->aC (σ.aa.set id ob') w' γ.Z γ.blk v cv:=λv cv hv =>
  hv.mono (λz hz=>⟨hz,pL z (λe=>h.nz b ⟨id,o,cap,qD,hb⟩ (e▸hz))⟩) (λi x hx=>by
   rw[cA];by_cases oB:id=i
   ·subst oB;rw[ho]at hx;simp at hx;subst hx;right;refine⟨rfl,ob',by simp[dt],iX⟩
   ·rw[if_neg oB];by_cases bP:x=.gone
    ·subst bP;exact .inl hx
    ·exact .inr ⟨rfl,x,hx,Ob.lk bP⟩)
 have cY:∀ i,Live (σ.aa.set id ob') i->Live σ.aa i:=by
  rintro i⟨x,hx,eJ⟩;rw[cA]at hx;split at hx
  ·rename_i e;subst e;exact qD
  ·exact⟨x,hx,eJ⟩
 refine⟨λk=>hR _ _ (h.aw k),?_,λi j b o c o' c' hi hj=>h.inj i j b o c o' c' (cY i hi) (cY j hj),?_,λz hz=>by rw[bx];exact h.jh z hz⟩
 ·intro i x hx;rw[cA]at hx;by_cases oB:id=i
  ·subst oB;rw[if_pos rfl,if_pos dt]at hx;simp at hx;subst hx;exact bk _ hR
  ·rw[if_neg oB]at hx;by_cases bP:x=.gone
   ·subst bP;trivial
   ·refine(h.fL i x hx).mono hR rfl (λz y c hz=>pL z (λe=>oB ?_));subst e;exact h.inj id i z o cap y c qD ⟨x,hx,bP⟩ hb hz
 ·rintro z ⟨i,y,c,hi,hz⟩;exact h.nz z ⟨i,y,c,cY i hi,hz⟩
def bS.write{σ:St}{γ:Cx}(h:bS σ γ){id:Nat}{ob ob':Ob}(ho:σ.aa[id]?=some ob)(hg:ob≠.gone)(iX:ob.fB ob'){b o cap:Nat}(hb:γ.blk id=some (b,o,cap)){w':World}{cur:Array Value}{t:TypeId}(hw:w'.heap[b]?=some (.cells cur t (0,0)))(pL:∀ k,k≠b->w'.heap[k]?=γ.w.heap[k]?)(bx:w'.heap.size=γ.w.heap.size)(bk:uV σ.aa γ.w γ.Z γ.blk o cap cur ob'):bS { σ with aa:=σ.aa.set id ob' } { γ with w:=w' } :=
 h.Ht ho hg iX hb pL bx λ_ hR=>bk.Lv hR hb hw
def Fr.write{σ:St}{γ:Cx}{id:Nat}{ob:Ob}(ob':Ob)(ho:σ.aa[id]?=some ob)(hg:ob≠.gone)(iX:ob.fB ob'){b o cap:Nat}(hb:γ.blk id=some (b,o,cap)){w':World}(pL:∀ k,k≠b->w'.heap[k]?=γ.w.heap[k]?)(bx:w'.heap.size=γ.w.heap.size)(h1:w'.os=γ.w.os)(h2:w'.tape=γ.w.tape)(h3:w'.output=γ.w.output):
  Fr σ.aa γ (σ.aa.set id ob') { γ with w:=w' } where
 oh:=h1
 tape:=h2
 output:=h3
 size:=by simp[bx]
 az:=λz _ nS=>pL z (λe=>nS ⟨id,o,cap,⟨ob,ho,hg⟩,e▸hb⟩)
 z0:=λ_ h=>h
 z1:=λ_ h=>.inl h
 own:=by
  rintro z⟨i,y,c,⟨x,hx,eJ⟩,hz⟩;rw[cA]at hx;split at hx
  ·rename_i e;subst e;exact .inl ⟨id,y,c,⟨ob,ho,hg⟩,hz⟩
  ·exact .inl ⟨i,y,c,⟨x,hx,eJ⟩,hz⟩
 len:=GF
 mL:=by
  rintro i hi⟨x,hx,eJ⟩;have hx0:=hx;rw[cA]at hx;split at hx
  ·rename_i e;subst e;exact⟨rfl,ob,ob',ho,by rw[cA];simp[hi],iX⟩
  ·exact⟨rfl,x,x,hx,hx0,Ob.lk eJ⟩
end Go.Am
namespace Go.Am
structure Ty where
 kind:Nat
 size:Nat
 bytes:Nat
 elem:Nat
 len:Nat
 zero:Option (List Value)
 aY:List (Nat×Nat×Nat)
def xH(P:Program)(t:TypeId):Nat:=match P.info? t with|some i=>i.size|none=>0
def ty(P:Program)(t:TypeId):Ty :=
 match P.info? t,P.underlying t with
 |some i,some d =>
  let base:Ty:={ kind:=0,size:=i.size,bytes:=i.bytes,elem:=0,len:=0,zero:=i.zero.map (·.cells.toList),aY:=[] }
  match d with
  |.slice e=>{ base with kind:=1,elem:=e }
  |.array n e=>{ base with kind:=2,elem:=e,len:=n }
  |.struct fs=>{ base with kind:=3,aY:=fs.toList.map λf=>(f.offset,f.type,xH P f.type) }
  |.string=>{ base with kind:=4 }
  |.int _=>{ base with kind:=5 }
  |.bool=>{ base with kind:=6 }
  |.pointer e=>{ base with kind:=7,elem:=e }
  |.map _ e=>{ base with kind:=8,elem:=e }
  |.func _ _ _=>{ base with kind:=9 }
  |_=>base
 |_,_=>{ kind:=99,size:=0,bytes:=0,elem:=0,len:=0,zero:=none,aY:=[] }
def Ty.isAgg(t:Ty):Bool:=t.kind==2||t.kind==3
def u3{P:Program}{t:TypeId}(h:(ty P t).kind≠99):∃i d,P.info? t=some i/\P.underlying t=some d/\(ty P t).size=i.size/\(ty P t).bytes=i.bytes/\(ty P t).zero=i.zero.map (·.cells.toList):=by
 unfold ty at h ⊢;cases hi:P.info? t with
 |none=>simp[hi]at h
 |some i =>
  cases hd:P.underlying t with
  |none=>simp[hi,hd]at h
  |some d =>
   refine⟨i,d,rfl,rfl,?_,?_,?_⟩<;>cases d<;>rfl
def uY{P:Program}{t:TypeId}(h:(ty P t).kind=1):P.underlying t=some (.slice (ty P t).elem):=by
 unfold ty at h ⊢;cases hi:P.info? t<;>cases hd:P.underlying t<;>simp[hi,hd]at h ⊢;rename_i i d;cases d<;>simp at h ⊢
def RW{P:Program}{t:TypeId}(h:(ty P t).kind=2):P.underlying t=some (.array (ty P t).len (ty P t).elem):=by
 unfold ty at h ⊢;cases hi:P.info? t<;>cases hd:P.underlying t<;>simp[hi,hd]at h ⊢;rename_i i d;cases d<;>simp at h ⊢
def Ln{P:Program}{t:TypeId}(h:(ty P t).kind=3):∃fs,P.underlying t=some (.struct fs)/\(ty P t).aY=fs.toList.map λf=>(f.offset,f.type,xH P f.type):=by
 unfold ty at h ⊢;cases hi:P.info? t<;>cases hd:P.underlying t<;>simp[hi,hd]at h ⊢;rename_i i d;cases d<;>simp at h ⊢
def aeO{P:Program}{t:TypeId}(h:(ty P t).kind=6):P.underlying t=some .bool:=by
 unfold ty at h;cases hi:P.info? t<;>cases hd:P.underlying t<;>simp[hi,hd]at h ⊢;rename_i i d;cases d<;>simp at h ⊢
def eZ:Value->AV
 |.agg cs=>.agg (cs.toList.map .lit)
 |v=>.lit v
def ev(σ:St):Operand->AV
 |.tmp t=>σ.env t
 |.const v=>eZ v
 |.func f=>.fn f []
 |.global _=>.undef
def St.put(σ:St)(dst:Option Tmp)(v:AV):St :=
 match dst with
 |some d=>{ σ with env:=j8 σ.env d v }
 |none=>σ
def cO:AV->Bool
 |.lit v=>v.oneCell'
 |.tree ..|.cq _|.ref ..|.ptr ..|.fn ..|.jl ..|.iV ..=>true
 |_=>false
def cellsOf:AV->List AV
 |.agg cs=>cs
 |v=>[v]
def setCells(cells:List AV)(c:Nat):List AV->List AV
 |[]=>cells
 |v::vs=>setCells (cells.set c v) (c+1) vs
def nK(place:Nat->Option (Nat×Nat))(cells:List AV):List (Nat×AV)->Option (List AV)
 |[]=>some cells
 | (i,v)::rest =>
  match place i with
  |none=>none
  |some (off,size)=>if(cellsOf v).length=size/\off+size<=cells.length then nK place (setCells cells off (cellsOf v)) rest else none
def nL(sz:Nat):Nat->List AV->List (List AV)
 |0,_=>[]
 |n+1,cs=>cs.take sz::nL sz n (cs.drop sz)
def rowOf(σ:St)(id r:Nat):Option (List AV) :=
 match σ.aa[id]? with
 |some (.var cells)=>if r=0 then some cells else none
 |some (.arr _ rows)=>rows[r]?
 |_=>none
def pG(σ:St)(id r:Nat)(row:List AV):St :=
 match σ.aa[id]? with
 |some (.var _)=>{ σ with aa:=σ.aa.set id (.var row) }
 |some (.arr sz rows)=>{ σ with aa:=σ.aa.set id (.arr sz (rows.set r row)) }
 |_=>σ
def nJ(t:Ty)(cells:List AV)(c:Nat)(K:AV->Prop):Prop :=
 if t.isAgg then c+t.size<=cells.length/\K (.agg ((cells.drop c).take t.size))
 else match cells[c]? with
  |some v=>K v
  |none=>False
def qw:List AV->Option (List Int)
 |[]=>some []
 |.lit (.int .i64 a)::r=>(qw r).map (a::·)
 |_=>none
def vZ(P:Program)(t:TypeId)(n:Nat):Prop :=
 ∀ (w:World) (as bs:List Int),as.length=n->bs.length=n ->
  (Op.equalIn 10000 t (.agg (as.map (Value.int .i64)).toArray) (.agg (bs.map (Value.int .i64)).toArray)).run P w=.ok (decide (as=bs)) w
def Cb(k:IntKind)(a b:Int):Int:=k.wrap ((BitVec.ofInt k.bits a &&& BitVec.ofInt k.bits b).toNat)
def R7(a b:Int):Int:=IntKind.i64.wrap ((BitVec.ofInt 64 a &&& BitVec.ofInt 64 b).toNat)
def R8(a b:Int):Cb .i64 a b=R7 a b:=by unfold Cb R7;rfl
def iJ(op:BinOp)(k:IntKind)(a b:Int)(K:Value->Prop):Prop :=
 match op with
 |.add=>(k.min<=a+b/\a+b<=k.max)/\K (.int k (a+b))
 |.sub=>(k.min<=a-b/\a-b<=k.max)/\K (.int k (a-b))
 |.mul=>(k.min<=a*b/\a*b<=k.max)/\K (.int k (a*b))
 |.quo=>(0<=a/\0<b/\a<=k.max)/\K (.int k (a/b))
 |.rem=>b≠0/\K (.int k (a.tmod b))
 |.and=>K (.int k (Cb k a b))
 |.shr=>(0<=b/\b.toNat<=k.bits)/\K (.int k (a/2^b.toNat))
 |.eql=>K (.bool (a==b))
 |.neq=>K (.bool (a != b))
 |.lss=>K (.bool (decide (a<b)))
 |.leq=>K (.bool (decide (a<=b)))
 |.gtr=>K (.bool (decide (a > b)))
 |.geq=>K (.bool (decide (a >= b)))
 |_=>False
def gV(t:Bool):AV->AV->AV
 |.lit (.bool x),.lit (.bool y)=>.lit (.bool (bif t then x else y))
 |a,b=>if t then a else b
def pI(σ:St):AV->Option (Nat×List (List AV))
 |.tree sz rows=>some (sz,rows)
 |.ref id sz off len =>
  match σ.aa[id]? with
  |some (.arr dK rows)=>if dK=sz then some (sz,(rows.drop off).take len) else none
  |_=>none
 |_=>none
def sM(σ:St)(sz:Nat):AV->Option (List (List AV)×St)
 |.lit (.slice none 0 0)=>some ([],σ)
 |.ref id dK off len =>
  match σ.aa[id]? with
  |some (.arr mg rows)=>if mg=dK/\dK=sz then some ((rows.drop off).take len,{ σ with aa:=σ.aa.set id .gone }) else none
  |_=>none
 |_=>none
end Go.Am
namespace Go.Am
variable (P:Program)
def kM(l:List Int):List (List Int×AV)->Nat->Option Nat
 |[],_=>none
 |p::r,i=>if p.1=l then some i else kM l r (i+1)
def pH(l:List Int)(L:List (List Int×AV)):Option AV:=(kM l L 0).bind λi=>(L[i]?).map (·.2)
def gW(l:List Int)(v:AV)(L:List (List Int×AV)):List (List Int×AV) :=
 match kM l L 0 with
 |some i=>L.set i (l,v)
 |none=>L++[(l,v)]
def BX(l:List Int)(L:List (List Int×AV)):Nat:=(kM l L 0).getD L.length
def rI(n:Nat)(v:AV)(L:List (List Int×AV)):List (List Int×AV):=L.set n ((L.getD n ([],.undef)).1,v)
def me(P:Program)(t:TypeId)(ag:Nat):Prop:=∃ kt et,P.underlying t=some (.map kt et)/\∀ l:List Int,l.length=lj ag ->
 (∀ e w,(Instr.checkKey e 10000 kt (kV ag l)).run P w=.ok () w)/\(∀ w,(Instr.keyThatStays (kV ag l) (kV ag l)).run P w=.ok (kV ag l) w) /\
 ∀ (f:Nat->Value) (L:List (List Int×AV)) w,(∀ p∈L,p.1.length=lj ag)->(Instr.findKey kt (kV ag l) (dT (eD ag f L)).toList).run P w=.ok ((kM l L 0).map λi=>(i,f i)) w
def zeroV(P:Program)(t:TypeId):Option Value :=
 match P.info? t with
 |some i=>i.zero
 |none=>none
def BW(P:Program)(t:TypeId):Nat :=
 match P.underlying t with
 |some (.map kt _)=>if(ty P kt).isAgg then(ty P kt).size else 0
 |_=>0
def keyOf:AV->Option (Nat×List Int)
 |.lit (.int .i64 n)=>some (0,[n])
 |.agg cs=>(qw cs).map λl=>(l.length,l)
 |_=>none
def ng(σ:St):AV->Option (Nat×Nat×List (List Int×AV))
 |.iV id =>
  match σ.aa[id]? with
  |some (.mp ag L)=>some (id,ag,L)
  |_=>none
 |_=>none
def KM(s:ByteArray)(n:Nat):Int :=
 match s[n]? with
 |some b=>b.toNat
 |none=>0
def xz(P:Program)(t:TypeId):Bool :=
 match P.underlying t with
 |some (.interface _)=>true
 |some _=>false
 |none=>true
def cU (o:Oper) (σ:St) (K:St->Prop):Prop :=
  match o.op with
  | .move x | .assign x=>K (σ.put o.dst (ev σ x))
  | .pick c a b =>
    match ev σ c with
    | .lit (.bool t)=>K (σ.put o.dst (gV t (ev σ a) (ev σ b)))
    | _=>False
  | .alloc e =>
    (ty P e).kind≠99 /\
    match (ty P e).zero with
    | some z=>K (({ σ with aa:=σ.aa++[.var (z.map .lit)] }:St).put o.dst (.ptr σ.aa.length 0 0))
    | none=>False
  | .box _ x=>(cellsOf (ev σ x)).all cO=true/\K (({ σ with aa:=σ.aa++[.var (cellsOf (ev σ x))] }:St).put o.dst (.ptr σ.aa.length 0 0))
  | .build t parts =>
    match (ty P t).kind,(ty P t).zero with
    | 3,some z =>
      match nK (λi=>((ty P t).aY[i]?).map λf=>(f.1,f.2.2)) (z.map .lit) (parts.toList.map λp=>(p.1,ev σ p.2)) with
      | some cs=>((parts.toList.all λp=>(cellsOf (ev σ p.2)).all cO)=true/\((ty P t).aY.all λf=>decide (0<f.2.2))=true)/\K (σ.put o.dst (.agg cs))
      | none=>False
    | 2,some z =>
      match nK (λi=>some (i * (ty P (ty P t).elem).size,(ty P (ty P t).elem).size)) (z.map .lit) (parts.toList.map λp=>(p.1,ev σ p.2)) with
      | some cs=>((parts.toList.all λp=>(cellsOf (ev σ p.2)).all cO)=true/\(ty P (ty P t).elem).kind≠99)/\K (σ.put o.dst (.agg cs))
      | none=>False
    | _,_=>False
  | .buildSlice t len parts =>
    match (ty P t).kind,(ty P (ty P t).elem).zero with
    | 1,some z =>
      match nK (λi=>some (i * (ty P (ty P t).elem).size,(ty P (ty P t).elem).size)) ((aW len).flatMap λ_=>z.map .lit) (parts.toList.map λp=>(p.1,ev σ p.2)) with
      | some cs=>((ty P (ty P t).elem).kind≠99/\0<(ty P (ty P t).elem).size/\z.length=(ty P (ty P t).elem).size/\len * (ty P (ty P t).elem).size<=16777216/\(parts.toList.all λp=>(cellsOf (ev σ p.2)).all cO)=true) /\
          K (({ σ with aa:=σ.aa++[.arr (ty P (ty P t).elem).size (nL (ty P (ty P t).elem).size len cs)] }:St).put o.dst (.ref σ.aa.length (ty P (ty P t).elem).size 0 len))
      | none=>False
    | _,_=>False
  | .load t a =>
    (ty P t).kind≠99 /\
    match ev σ a with
    | .ptr id r c =>
      match rowOf σ id r with
      | some row=>nJ (ty P t) row c λv=>K (σ.put o.dst v)
      | none=>False
    | .cq cells=>nJ (ty P t) cells 0 λv=>K (σ.put o.dst v)
    | _=>False
  | .store t a x =>
    (ty P t).kind≠99 /\
    match ev σ a with
    | .ptr id r c =>
      match rowOf σ id r with
      | some row=>((cellsOf (ev σ x)).length=(ty P t).size/\c+(ty P t).size<=row.length/\(cellsOf (ev σ x)).all cO=true)/\K ((pG σ id r (setCells row c (cellsOf (ev σ x)))).put o.dst .undef)
      | none=>False
    | _=>False
  | .nilCheck x =>
    match ev σ x with
    | .ptr id r c =>
      match σ.aa[id]? with
      | some .gone=>False
      | some _=>K (σ.put o.dst (.ptr id r c))
      | none=>False
    | .cq cells=>K (σ.put o.dst (.cq cells))
    | _=>False
  | .binOp op t x y _ =>
    match ev σ x,ev σ y with
    | .lit (.int k a),.lit (.int k' b)=>k=k'/\iJ op k a b λv=>K (σ.put o.dst (.lit v))
    | .lit (.bool a),.lit (.bool b) =>
      (ty P t).kind=6 /\
      match op with
      | .eql=>K (σ.put o.dst (.lit (.bool (a == b))))
      | .neq=>K (σ.put o.dst (.lit (.bool (a != b))))
      | _=>False
    | .tree _ rows,.lit (.slice none 0 0) =>
      ((ty P t).kind=1/\0<rows.length) /\
      match op with
      | .eql=>K (σ.put o.dst (.lit (.bool false)))
      | .neq=>K (σ.put o.dst (.lit (.bool true)))
      | _=>False
    | .lit (.slice a _ _),.lit (.slice none 0 0) =>
      (ty P t).kind=1 /\
      match op with
      | .eql=>K (σ.put o.dst (.lit (.bool a.isNone)))
      | .neq=>K (σ.put o.dst (.lit (.bool (!a.isNone))))
      | _=>False
    | .agg cs,.agg ds =>
      match qw cs,qw ds with
      | some as,some bs =>
        (vZ P t as.length/\bs.length=as.length/\P.eqGuardType P.depth t=false) /\
        match op with
        | .eql=>K (σ.put o.dst (.lit (.bool (decide (as=bs)))))
        | .neq=>K (σ.put o.dst (.lit (.bool (!decide (as=bs)))))
        | _=>False
      | _,_=>False
    | _,_=>False
  | .unOp op _ x =>
    match op,ev σ x with
    | .not,.lit (.bool b)=>K (σ.put o.dst (.lit (.bool !b)))
    | .neg,.lit (.int k a)=>(k.min<=-a/\-a<=k.max)/\K (σ.put o.dst (.lit (.int k (-a))))
    | _,_=>False
  | .makeFunc fn first captured =>
    match fn with
    | .func f=>first.size=0/\K (σ.put o.dst (.fn f (captured.toList.map (ev σ))))
    | _=>False
  | .makeSlice t l c =>
    match (ty P t).kind,(ty P (ty P t).elem).zero,ev σ l,ev σ c with
    | 1,some z,.lit (.int k n),.lit (.int k' n') =>
      ((ty P (ty P t).elem).kind≠99/\0<(ty P (ty P t).elem).size/\z.length=(ty P (ty P t).elem).size/\n'=n/\0<=n/\n<=1099511627776/\(ty P (ty P t).elem).bytes<=128/\k=k) /\
        K (({ σ with aa:=σ.aa++[.arr (ty P (ty P t).elem).size (bH n.toNat (z.map .lit))] }:St).put o.dst (.ref σ.aa.length (ty P (ty P t).elem).size 0 n.toNat))/\k'=k'
    | _,_,_,_=>False
  | .slice t x lo hi mx =>
    (ty P t).kind=1/\(ty P (ty P t).elem).kind≠99/\mx=none /\
    match ev σ x with
    | .ref id sz off len =>
      match σ.aa[id]? with
      | some (.arr dK rows) =>
        dK=sz/\sz=(ty P (ty P t).elem).size /\
        match lo.map (ev σ),hi.map (ev σ) with
        | none,none=>K (σ.put o.dst (.ref id sz off len))
        | some (.lit (.int _ l)),none=>(0<=l/\l<=len/\rows.length=rows.length)/\K (σ.put o.dst (.ref id sz (off+l.toNat) (len - l.toNat)))
        | none,some (.lit (.int _ h))=>(0<=h/\h<=len)/\K (σ.put o.dst (.ref id sz off h.toNat))
        | some (.lit (.int _ l)),some (.lit (.int _ h))=>(0<=l/\l<=h/\h<=len)/\K (σ.put o.dst (.ref id sz (off+l.toNat) (h.toNat - l.toNat)))
        | _,_=>False
      | _=>False
    | .tree sz rows =>
        (rows≠[]->sz=(ty P (ty P t).elem).size) /\
        match lo.map (ev σ),hi.map (ev σ) with
        | none,none=>K (σ.put o.dst (.tree sz rows))
        | some (.lit (.int _ l)),none=>(0<=l/\l<=rows.length)/\K (σ.put o.dst (.tree sz (rows.drop l.toNat)))
        | none,some (.lit (.int _ h))=>(0<=h/\h<=rows.length)/\K (σ.put o.dst (.tree sz (rows.take h.toNat)))
        | some (.lit (.int _ l)),some (.lit (.int _ h))=>(0<=l/\l<=h/\h<=rows.length)/\K (σ.put o.dst (.tree sz ((rows.take h.toNat).drop l.toNat)))
        | _,_=>False
    | _=>False
  | .fieldAddr s x f =>
    match (ty P s).kind,(ty P s).aY[f]? with
    | 3,some (off,_,size) =>
      0<size /\
      match ev σ x with
      | .ptr id r c =>
        match σ.aa[id]? with
        | some .gone=>False
        | some _=>K (σ.put o.dst (.ptr id r (c+off)))
        | none=>False
      | .cq cells=>K (σ.put o.dst (.cq (cells.drop off)))
      | _=>False
    | _,_=>False
  | .field s x f =>
    match (ty P s).kind,(ty P s).aY[f]? with
    | 3,some (off,t,size) =>
      (ty P t).kind≠99/\size=(ty P t).size /\
      match ev σ x with
      | .agg cs=>if (ty P t).isAgg then off+size<=cs.length/\K (σ.put o.dst (.agg ((cs.drop off).take size))) else
          match cs[off]? with
          | some v=>K (σ.put o.dst v)
          | none=>False
      | _=>False
    | _,_=>False
  | .indexAddr t x i =>
    match (ty P t).kind,ev σ x,ev σ i with
    | 1,.ref id sz off len,.lit (.int _ n) =>
      match σ.aa[id]? with
      | some (.arr dK _)=>(dK=sz/\sz=(ty P (ty P t).elem).size/\(ty P (ty P t).elem).kind≠99/\0<=n/\n<len)/\K (σ.put o.dst (.ptr id (off+n.toNat) 0))
      | _=>False
    | 1,.tree sz rows,.lit (.int _ n)=>(sz=(ty P (ty P t).elem).size/\(ty P (ty P t).elem).kind≠99/\0<=n/\n<rows.length)/\K (σ.put o.dst (.cq (rows.getD n.toNat [])))
    | 2,.ptr id r c,.lit (.int _ n) =>
      match σ.aa[id]? with
      | some .gone=>False
      | some _=>((ty P (ty P t).elem).kind≠99/\0<=n/\n<(ty P t).len)/\K (σ.put o.dst (.ptr id r (c+n.toNat * (ty P (ty P t).elem).size)))
      | none=>False
    | _,_,_=>False
  | .makeMap t r=>(r=none/\(ty P t).kind=8)/\K (({ σ with aa:=σ.aa++[.mp (BW P t) []] }:St).put o.dst (.iV σ.aa.length))
  | .lookup t x i ok =>
    match keyOf (ev σ i),ng σ (ev σ x),zeroV P (ty P t).elem with
    | some (ag,l),some (_,jU,L),some z=>(me P t ag/\jU=ag/\l.length=lj ag/\(ty P t).kind=8/\ok=false)/\K (σ.put o.dst ((pH l L).getD (.lit z)))
    | _,_,_=>False
  | .mapUpdate t m k x =>
    match keyOf (ev σ k),ng σ (ev σ m) with
    | some (ag,l),some (id,jU,L)=>(me P t ag/\jU=ag/\l.length=lj ag)/\K (({ σ with aa:=σ.aa.set id (.mp ag (gW l (ev σ x) L)) }:St).put o.dst .undef)
    | _,_=>False
  | .mapEntry t m k =>
    match keyOf (ev σ k),ng σ (ev σ m),zeroV P (ty P t).elem with
    | some (ag,l),some (id,jU,L),some z=>(me P t ag/\jU=ag/\l.length=lj ag/\(ty P t).kind=8) /\
      K (({ σ with aa:=σ.aa.set id (.mp ag (gW l ((pH l L).getD (.lit z)) L)) }:St).put o.dst (.bJ [(pH l L).getD (.lit z),.lit (.int .i64 (BX l L:Nat))]))
    | _,_,_=>False
  | .entryStore _ m s x =>
    match ev σ s,ng σ (ev σ m) with
    | .lit (.int .i64 n),some (id,ag,L)=>(0<=n/\n<L.length)/\K (({ σ with aa:=σ.aa.set id (.mp ag (rI n.toNat (ev σ x) L)) }:St).put o.dst .undef)
    | _,_=>False
  | .index t x i =>
    match ev σ x,ev σ i with
    | .lit (.string s),.lit (.int _ n)=>(P.underlying t=some .string/\0<=n/\n<s.size)/\K (σ.put o.dst (.lit (.int .u8 (KM s n.toNat))))
    | _,_=>False
  | .makeInterface t x=>xz P t=false/\K (σ.put o.dst (.jl t (ev σ x)))
  | .typeAssert x _ asserted ok =>
    match ev σ x with
    | .jl t v=>(xz P asserted=false/\t=asserted/\ok=false)/\K (σ.put o.dst v)
    | _=>False
  | .extract x i =>
    match ev σ x with
    | .bJ vs =>
      match vs[i]? with
      | some v=>K (σ.put o.dst v)
      | none=>False
    | _=>False
  | .call { callee:=.builtin .len,args,argTypes } =>
    match args.toList,argTypes.toList with
    | [x],[t] =>
      match ev σ x with
      | .ref id sz _ len =>
        (ty P t).kind=1 /\
        match σ.aa[id]? with
        | some (.arr dK _)=>dK=sz/\K (σ.put o.dst (.lit (.int .i64 len)))
        | _=>False
      | .tree _ rows=>(ty P t).kind=1/\K (σ.put o.dst (.lit (.int .i64 rows.length)))
      | .lit (.slice none 0 0)=>(ty P t).kind=1/\K (σ.put o.dst (.lit (.int .i64 0)))
      | .iV id =>
        (ty P t).kind=8 /\
        match σ.aa[id]? with
        | some (.mp _ L)=>K (σ.put o.dst (.lit (.int .i64 L.length)))
        | _=>False
      | _=>False
    | _,_=>False
  | .call { callee:=.builtin .append,args,argTypes } =>
    match args.toList,argTypes.toList with
    | [s,x],[t,t'] =>
      match (ty P t).kind,(ty P (ty P t).elem).zero,sM σ (ty P (ty P t).elem).size (ev σ s),pI σ (ev σ x) with
      | 1,some z,some (pre,σ1),some (sz,src) =>
        (t'=t/\(ty P (ty P t).elem).kind≠99/\sz=(ty P (ty P t).elem).size/\0<sz/\z.length=sz/\pre.length+src.length<=549755813888/\(ty P (ty P t).elem).bytes<=128/\(src.all λrow=>row.all cO)=true) /\
          K (({ σ1 with aa:=σ1.aa++[.arr sz (pre++src)] }:St).put o.dst (.ref σ1.aa.length sz 0 (pre.length+src.length)))
      | _,_,_,_=>False
    | _,_=>False
  | .call { callee:=.builtin .min,args,argTypes:=_ } =>
    match args.toList with
    | [x,y] =>
      match ev σ x,ev σ y with
      | .lit (.int k a),.lit (.int k' b)=>k=k'/\K (σ.put o.dst (.lit (.int k (min a b))))
      | _,_=>False
    | _=>False
  | .call { callee:=.builtin .max,args,argTypes:=_ } =>
    match args.toList with
    | [x,y] =>
      match ev σ x,ev σ y with
      | .lit (.int k a),.lit (.int k' b)=>k=k'/\K (σ.put o.dst (.lit (.int k (max a b))))
      | _,_=>False
    | _=>False
  | .call { callee:=.builtin .copy,args,argTypes } =>
    match args.toList,argTypes.toList with
    | [s,x],[t,_] =>
      match ev σ s,pI σ (ev σ x) with
      | .ref id sz off len,some (dK,src) =>
        match σ.aa[id]? with
        | some (.arr mg rows) =>
          ((ty P t).kind=1/\(ty P (ty P t).elem).kind≠99/\dK=sz/\mg=sz/\sz=(ty P (ty P t).elem).size/\0<sz/\(src.all λrow=>row.all cO)=true) /\
            K (({ σ with aa:=σ.aa.set id (.arr sz (rows.take off++src.take (min src.length len)++rows.drop (off+min src.length len))) }:St).put o.dst (.lit (.int .i64 (min src.length len:Nat))))
        | _=>False
      | _,_=>False
    | _,_=>False
  | .call { callee:=.builtin .clear,args,argTypes } =>
    match args.toList,argTypes.toList with
    | [s],[t] =>
      match ev σ s,(ty P (ty P t).elem).zero with
      | .ref id sz off len,some z =>
        match σ.aa[id]? with
        | some (.arr dK rows) =>
          ((ty P t).kind=1/\(ty P (ty P t).elem).kind≠99/\dK=sz/\z.length=sz/\0<sz/\(z.all λu=>u.oneCell')=true) /\
            K (({ σ with aa:=σ.aa.set id (.arr sz (rows.take off++bH len (z.map AV.lit)++rows.drop (off+len))) }:St).put o.dst (.lit (.tuple #[])))
        | _=>False
      | _,_=>False
    | _,_=>False
  | .convert s d x =>
    match P.underlying d,ev σ x with
    | some (.int k),.lit (.int _ n)=>(P.underlying s).isSome=true/\K (σ.put o.dst (.lit (.int k (k.wrap n))))
    | _,_=>False
  | _=>False
end Go.Am
namespace Go.Am
variable {P:Program}
def Av(o:Oper)(σ:St)(γ:Cx)(a:Act)(K:St->Prop)(r:Result Next):Prop :=
 ∃ n x w' σ' aO,r=.ok n w'/\(n=.value x\/(n=.skip/\x=Go.undef))/\K σ'/\bS σ' aO/\Fr σ.aa γ σ'.aa aO/\aO.w=w'/\aO.tmps=(a.put o.dst x).tmps
def aC.lit{os:List Ob}{w:World}{Z:Nat->Prop}{blk:iG}(v:Value):aC os w Z blk (.lit v) v:=.cC _ _ (.lit v)
def aC.dz{os:List Ob}{w:World}{Z:Nat->Prop}{blk:iG}{v cv:Value}(h:aC os w Z blk (.lit v) cv):cv=v:=by
 cases h with
 |cC _ _ h=>cases h;rfl
def aC.Ao{os:List Ob}{w:World}{Z:Nat->Prop}{blk:iG}{sz:Nat}{rows:List (List AV)}{cv:Value}(h:aC os w Z blk (.tree sz rows) cv):jf w Z (.tree sz rows) cv:=by
 cases h with
 |cC _ _ h=>exact h
def aC.eZ{os:List Ob}{w:World}{Z:Nat->Prop}{blk:iG}(v:Value):aC os w Z blk (eZ v) v:=by
 unfold Am.eZ;split
 ·rename_i cs;refine .agg _ _ GF (λj x hx=>?_);simp only[List.getElem?_map,Array.getElem?_toList]at hx;cases hj:cs[j]? with
  |none=>simp[hj]at hx
  |some y =>
   simp[hj]at hx;subst hx;simp[hj];exact .lit y
 ·exact .lit v
def uS{σ:St}{γ:Cx}(h:bS σ γ){a:Act}(ha:γ.tmps=a.tmps)(x:Operand):aC σ.aa γ.w γ.Z γ.blk (ev σ x) (a.eval x):=by
 cases x with
 |tmp t=>have:=h.aw t;rw[ha]at this;exact this
 |const v=>exact .eZ v
 |global g=>exact .undef _
 |func f=>exact .fn f [] #[] rfl (λj x hx=>by simp at hx)
def Hy{os:List Ob}{w:World}{Z:Nat->Prop}{blk:iG}{v:AV}{cv:Value}(h:aC os w Z blk v cv)(hs:cO v=true):cv.oneCell'=true:=by
 cases h with
 |undef cv=>simp[cO]at hs
 |cC v cv h=>cases h<;>first|rfl|(simpa [cO] using hs)
 |cq=>rfl
 |mh id sz off len cv h h1=>exact h1
 |ov id r c cv h h1=>exact h1
 |ref=>rfl
 |nN=>rfl
 |ow=>rfl
 |oZ=>rfl
 |pJ=>rfl
 |agg=>simp[cO]at hs
 |bJ=>simp[cO]at hs
 |fn=>rfl
 |jl=>rfl
 |iV=>rfl
 |sN id cv h h1=>exact h1
def sH{σ:St}{γ:Cx}(h:bS σ γ){a:Act}(ha:γ.tmps=a.tmps){dst:Option Tmp}(hd:∀ d,dst=some d->d<a.tmps.size){v:AV}{cv:Value}(hv:aC σ.aa γ.w γ.Z γ.blk v cv):bS (σ.put dst v) { γ with tmps:=(a.put dst cv).tmps }:=by
 cases dst with
 |none =>
  have:({ γ with tmps:=(a.put none cv).tmps }:Cx)=γ:=by cases γ;simp_all [Act.put]
  rw[this];exact h
 |some d =>
  have:=h.put d (by rw[ha];exact hd d rfl) hv;rw[ha]at this;exact this
def rF(σ:St)(dst:Option Tmp)(v:AV):(σ.put dst v).aa=σ.aa:=by cases dst<;>rfl
def ej{o:Oper}{σ:St}{γ:Cx}{a:Act}{K:St->Prop}(h:bS σ γ)(ha:γ.tmps=a.tmps)(hd:∀ d,o.dst=some d->d<a.tmps.size){v:AV}{cv:Value}(hv:aC σ.aa γ.w γ.Z γ.blk v cv)(hK:K (σ.put o.dst v)){r:Result Next}(hr:r=.ok (.value cv) γ.w):Av o σ γ a K r :=
 ⟨.value cv,cv,γ.w,σ.put o.dst v,{ γ with tmps:=(a.put o.dst cv).tmps },hr,.inl rfl,hK,sH h ha hd hv,by rw[rF];exact(Fr.refl _ _).put _,rfl,rfl⟩
def B3{o:Oper}{σ σ1:St}{γ γ1:Cx}{a:Act}{K:St->Prop}(hf:Fr σ.aa γ σ1.aa γ1)(h:bS σ1 γ1)(ha:γ1.tmps=a.tmps)(hd:∀ d,o.dst=some d->d<a.tmps.size){v:AV}{cv:Value}(hv:aC σ1.aa γ1.w γ1.Z γ1.blk v cv)(hK:K (σ1.put o.dst v)){r:Result Next}(hr:r=.ok (.value cv) γ1.w):Av o σ γ a K r :=
 ⟨.value cv,cv,γ1.w,σ1.put o.dst v,{ γ1 with tmps:=(a.put o.dst cv).tmps },hr,.inl rfl,hK,sH h ha hd hv,by rw[rF];exact hf.put _,rfl,rfl⟩
def Lk{o:Oper}{σ σ1:St}{γ γ1:Cx}{a:Act}{K:St->Prop}(hf:Fr σ.aa γ σ1.aa γ1)(h:bS σ1 γ1)(ha:γ1.tmps=a.tmps)(hd:∀ d,o.dst=some d->d<a.tmps.size)(hK:K (σ1.put o.dst .undef)){r:Result Next}(hr:r=.ok .skip γ1.w):Av o σ γ a K r :=
 ⟨.skip,Go.undef,γ1.w,σ1.put o.dst .undef,{ γ1 with tmps:=(a.put o.dst Go.undef).tmps },hr,.inr ⟨rfl,rfl⟩,hK,sH h ha hd (.undef _),by rw[rF];exact hf.put _,rfl,rfl⟩
def yZ{k:IntKind}{n:Int}(h:k.min<=n/\n<=k.max):k.wrap n=n:=by
 cases k<;>simp[IntKind.min,IntKind.max,IntKind.signed,IntKind.bits]at h<;>simp[IntKind.wrap,IntKind.signed,IntKind.bits]<;>omega
def aeN{op:BinOp}{k:IntKind}{x y:Int}{K:Value->Prop}(h:iJ op k x y K)(t:TypeId)(w:World):
  ∃ v,(binOp op t (.int k x) (.int k y)).run P w=.ok v w/\K v:=by
 cases op<;>simp only[iJ]at h
 case add=>exact⟨_,by simp[binOp,Op.intArith,yZ h.1],h.2⟩
 case sub=>exact⟨_,by simp[binOp,Op.intArith,yZ h.1],h.2⟩
 case mul=>exact⟨_,by simp[binOp,Op.intArith,yZ h.1],h.2⟩
 case quo =>
  refine⟨_,?_,h.2⟩;obtain⟨h0,hb,hm⟩:=h.1;have hq:x.tdiv y=x/y:=Int.tdiv_eq_ediv_of_nonneg h0;have hle:x/y<=x:=Int.ediv_le_self _ h0;have nR:0<=x/y:=Int.ediv_nonneg h0 GC;have hw:k.wrap (x/y)=x/y:=yZ ⟨by cases k<;>simp[IntKind.min,IntKind.signed,IntKind.bits]<;>omega,GC⟩;have dO:¬ y=0:=GC;simp[binOp,Op.intDiv,dO,hq,hw]
 case rem=>exact⟨_,by simp[binOp,Op.intDiv,h.1],h.2⟩
 case and =>
  exact⟨_,by simp[binOp,Op.intBits,Cb],h⟩
 case shr =>
  refine⟨_,?_,h.2⟩;obtain⟨h0,h1⟩:=h.1;have:¬ y<0:=GC;have e:(2:Int)^y.toNat=((2^y.toNat:Nat):Int):=GF;simp[binOp,Op.shift,this,Nat.min_eq_left h1];exact Int.fdiv_eq_ediv_of_nonneg _ (by rw[e];exact Int.natCast_nonneg _)
 case eql=>exact⟨_,by simp[binOp,Op.intCmp],h⟩
 case neq=>exact⟨_,by simp[binOp,Op.intCmp],h⟩
 case lss=>exact⟨_,by simp[binOp,Op.intCmp],h⟩
 case leq=>exact⟨_,by simp[binOp,Op.intCmp],h⟩
 case gtr=>exact⟨_,by simp[binOp,Op.intCmp],h⟩
 case geq=>exact⟨_,by simp[binOp,Op.intCmp],h⟩
def R9:∀ {cs:List AV} {as:List Int},qw cs=some as->cs=as.map λa=>aaC a
 |[],as,h=>by simp[qw]at h;subst h;rfl
 |c::cs,as,h=>by
  unfold qw at h;split at h
  ·rename_i e;simp at e
  ·rename_i a r e;simp only[List.cons.injEq]at e;obtain⟨rfl,rfl⟩:=e;simp only[Option.map_eq_some_iff]at h;obtain⟨as',h,rfl⟩:=h;rw[R9 h];rfl
  ·simp at h
def K9{os:List Ob}{w:World}{Z:Nat->Prop}{blk:iG}{cs:List AV}{as:List Int}{cv:Value}(h:aC os w Z blk (.agg cs) cv)(hi:qw cs=some as):cv=.agg (as.map (Value.int .i64)).toArray:=by
 have:=R9 hi;subst this;cases h with
 |cC _ _ h=>cases h
 |agg _ bG hs h =>
  congr 1;refine Array.ext (by simpa using hs) (λj h1 h2=>?_);have hj:j<as.length:=by simpa using h2
  have:=(h j (aaC as[j]) (by simp[hj])).dz;rw[gm,Array.getElem?_eq_getElem h1]at this;simpa using this
end Go.Am
namespace Go.Am
variable {P:Program}
def Lo{t:TypeId}(h:(ty P t).kind≠99)(w:World):(isAgg t).run P w=.ok (ty P t).isAgg w:=by
 obtain⟨i,d,hi,hd,_⟩:=u3 h;simp only[isAgg,Sem.run_bind,run_underlying hd,Result.andThen_ok];have:ty P t=ty P t:=rfl;cases d<;>simp[ty,hi,hd,Ty.isAgg]
def run_sizeOf{t:TypeId}(h:(ty P t).kind≠99)(w:World):(sizeOf t).run P w=.ok (ty P t).size w:=by
 obtain⟨i,d,hi,hd,hs,_⟩:=u3 h;simp[sizeOf,typeInfo,hi,hs]
def RT{t:TypeId}{z:List Value}(h:(ty P t).kind≠99)(hz:(ty P t).zero=some z)(w:World):∃v,(zeroValue t).run P w=.ok v w/\v.cells=z.toArray:=by
 obtain⟨i,d,hi,hd,_,_,h3⟩:=u3 h;rw[h3]at hz;cases hv:i.zero with
 |none=>simp[hv]at hz
 |some v =>
  simp[hv]at hz;refine⟨v,by simp[zeroValue,typeInfo,hi,hv],?_⟩;rw[<- hz]
def Hi{σ:St}{γ:Cx}(h:bS σ γ){id r c:Nat}{cv:Value}{row:List AV}(hv:aC σ.aa γ.w γ.Z γ.blk (.ptr id r c) cv)(bq:rowOf σ id r=some row):
  ∃ b base cap cur t o,cv=.pointer (some ⟨b,base+c,none⟩)/\γ.blk id=some (b,o,cap)/\γ.w.heap[b]?=some (.cells cur t (0,0))/\base+row.length<=cur.size /\
   (∀ j v,row[j]?=some v->aC σ.aa γ.w γ.Z γ.blk v (cur.getD (base+j) Go.undef))/\Live σ.aa id /\
   (∀ AE qE,AE.length=row.length->qE.size=cur.size->(∀ j v,AE[j]?=some v->aC σ.aa γ.w γ.Z γ.blk v (qE.getD (base+j) Go.undef))->(∀ k,(k<base\/base+row.length<=k)->qE.getD k Go.undef=cur.getD k Go.undef) ->
    ∃ ob ob',σ.aa[id]?=some ob/\ob≠.gone/\ob.fB ob'/\(pG σ id r AE) = { σ with aa:=σ.aa.set id ob' }/\uV σ.aa γ.w γ.Z γ.blk o cap qE ob'):=by
 unfold rowOf at bq;cases ho:σ.aa[id]? with
 |none=>simp[ho]at bq
 |some ob =>
  have bk:=h.fL id ob ho;cases ob with
  |gone=>simp[ho]at bq
  |mp ag L=>simp[ho]at bq
  |var cells =>
   simp only[ho]at bq;split at bq
   ·rename_i AF;subst AF;simp at bq;subst bq;obtain⟨b,cap,cur,t,h1,h2,h3,h4⟩:=bk;have bD:cv=.pointer (some ⟨b,c,none⟩):=by
     cases hv with
     |cC _ _ h=>cases h
     |ov _ _ _ _ h=>rw[ho]at h;simp at h
     |oZ _ _ b' cap' cells' h hb=>rw[h1]at hb;simp at hb;simp[hb.1]
     |pJ _ _ _ sz b' o' cap' rows h hb=>rw[ho]at h;simp at h
    refine⟨b,0,cap,cur,t,0,by simpa using bD,h1,h2,GC,λj v hj=>by simpa using h4 j v hj,⟨_,ho,GF⟩,?_⟩;intro AE qE hl hs lu _;refine⟨.var cells,.var AE,rfl,GF,by simp[Ob.fB,hl],by simp[pG,ho],rfl,GC,λc v hc=>by simpa using lu c v hc⟩
   ·simp at bq
  |arr sz rows =>
   simp only[ho]at bq;obtain⟨bx,cD,bk⟩:=bk;have anz:row.length=sz:=cD row (iD bq);have afa:r<rows.length:=(a8.1 bq).1;rcases bk with⟨_,he⟩|⟨b,o,cap,cur,t,h1,h2,h3,h4,h5,h6⟩
   ·subst he;simp at bq
   ·have bD:cv=.pointer (some ⟨b,o+(r*sz+c),none⟩):=by
     cases hv with
     |cC _ _ h=>cases h
     |ov _ _ _ _ h=>rw[ho]at h;simp at h
     |oZ _ _ b' cap' cells' h hb=>rw[ho]at h;simp at h
     |pJ _ _ _ dK b' o' cap' iI h hb=>rw[ho]at h;simp at h;rw[h1]at hb;simp at hb;simp[hb.1,hb.2.1,h.1]
    have hmul:r*sz+sz<=cap*sz:=by
     have:(r+1)*sz<=cap*sz:=oV _ GC;rw[gR]at this;omega
    refine⟨b,o+r*sz,cap,cur,t,o,by rw[bD];simp[yH],h1,h2,GC,?_,⟨_,ho,GF⟩,?_⟩
    ·intro j v hj;have:=h6 r j v (by simp[cellAt,bq,hj]);simpa [yH] using this
    ·intro AE qE hl hs lu Ek;refine⟨.arr sz rows,.arr sz (rows.set r AE),rfl,GF,by simp[Ob.fB],by simp[pG,ho],bx,?_,GC,by simp[h4],h5,?_⟩
     ·intro x hx;rcases List.mem_or_eq_of_mem_set hx with hx|rfl
      ·exact cD x hx
      ·omega
     ·intro r' c' v hc;by_cases cE:r=r'
      ·subst cE;simp only[cellAt,cA,if_true,afa]at hc;simp at hc;have:=lu c' v hc;simpa [yH] using this
      ·simp only[cellAt,cA,if_neg cE]at hc;have hold:=h6 r' c' v hc;have ln:c'<sz:=by
        simp only[yE]at hc;obtain⟨x,hx,u6⟩:=hc;have:=cD x (iD hx);have:=(a8.1 u6).1;omega
       rw[Ek _ ?_]
       ·exact hold
       ·rcases Nat.lt_or_gt_of_ne cE with br|tO
        ·right;have:(r+1)*sz<=r'*sz:=oV _ GC;rw[gR]at this;omega
        ·left;have:(r'+1)*sz<=r*sz:=oV _ GC;rw[gR]at this;omega
def Addr.tM(b o n:Nat):(⟨b,o,none⟩:Addr).add n=⟨b,o+n,none⟩:=by
 unfold Go.Addr.add;split<;>simp_all
def BZ{w:World}{b j:Nat}{cur:Array Value}{t:TypeId}{fr:Nat×Nat}(h:w.heap[b]?=some (.cells cur t fr))(hj:j<cur.size):w.cell? ⟨b,j,none⟩=some (cur.getD j Go.undef):=by
 simp[World.cell?,h,hj,gm]
def HD{w:World}{t:TypeId}(hk:(ty P t).kind≠99)(b o:Nat)(f:Nat->Value)(hc:∀ j,j<(if(ty P t).isAgg then(ty P t).size else 1)->w.cell? ⟨b,o+j,none⟩=some (f j)):
  (loadVar t ⟨b,o,none⟩).run P w=.ok (if(ty P t).isAgg then .agg ((aW (ty P t).size).map f).toArray else f 0) w:=by
 simp only[loadVar,Sem.run_bind,Lo hk,Result.andThen_ok];by_cases ha:(ty P t).isAgg=true
 ·simp only[ha,if_true,Sem.run_bind,run_sizeOf hk,Result.andThen_ok];rw[run_loadCells w ⟨b,o,none⟩ _ f (λj hj=>by rw[Addr.tM];exact hc j (by simpa [ha] using hj))];rfl
 ·have oA:=hc 0 (by simp[ha]);simp only[iS]at oA;simp[ha,oA]
end Go.Am
namespace Go.Am
variable {P:Program}
def Li(cs:List AV):∀ (row:List AV) (c:Nat),(setCells row c cs).length=row.length:=by
 induction cs with
 |nil=>intro row c;rfl
 |cons v vs ih=>intro row c;simp[setCells,ih]
def R3(cs:List AV):∀ (row:List AV) (c:Nat),c+cs.length<=row.length->∀ j,(setCells row c cs)[j]?=if c<=j/\j<c+cs.length then cs[j-c]? else row[j]?:=by
 induction cs with
 |nil=>intro row c _ j;simp[setCells];intro h1 h2;omega
 |cons v vs ih =>
  intro row c hl j;simp only[eB]at hl;simp only[setCells,eB];rw[ih (row.set c v) (c+1) aar j];by_cases h1:c+1<=j/\j<c+1+vs.length
  ·rw[if_pos h1,if_pos GC];have:j-c=(j-(c+1))+1:=GC;rw[this];simp
  ·rw[if_neg h1];by_cases h2:j=c
   ·subst h2;rw[if_pos GC];simp[show j<row.length by omega]
   ·rw[if_neg GC,List.getElem?_set_ne (Ne.symm h2)]
def Lb{os:List Ob}{w:World}{Z:Nat->Prop}{blk:iG}{v:AV}{cv:Value}(h:aC os w Z blk v cv)(hs:(cellsOf v).all cO=true):
  cv.cells.size=(cellsOf v).length/\(∀ j x,(cellsOf v)[j]?=some x->aC os w Z blk x (cv.cells.getD j Go.undef))/\∀ c∈cv.cells,c.oneCell'=true:=by
 by_cases lM :∃cs,v=.agg cs
 ·obtain⟨cs,rfl⟩:=lM;simp only[cellsOf]at hs ⊢;cases h with
  |cC _ _ h=>cases h
  |agg _ bG bx lu =>
   refine⟨bx,lu,?_⟩;intro c hc;simp only[Value.cells]at hc;obtain⟨j,hj,rfl⟩:=Array.mem_iff_getElem.1 hc;have hx:cs[j]?=some cs[j]:=by simp[<- bx,hj]
   have:=lu j _ hx;have hg:bG.getD j Go.undef=bG[j]:=by simp[gm,hj]
   rw[hg]at this;exact Hy this (by rw[List.all_eq_true]at hs;exact hs _ (iD hx))
 ·have lN:cellsOf v=[v]:=by
   unfold cellsOf;split
   ·exact absurd ⟨_,rfl⟩ lM
   ·rfl
  rw[lN]at hs ⊢;simp at hs;have ho:=Hy h hs;have aR:cv.cells = #[cv]:=by cases cv<;>first|rfl|simp[Value.oneCell']at ho
  rw[aR];refine⟨rfl,?_,by simp[ho]⟩;intro j x hx;cases j with
  |zero=>simp at hx;subst hx;simpa using h
  |succ j=>simp at hx
section
variable {o:Oper} {σ:St} {γ:Cx} {a:Act} {K:St->Prop}
def KW(hs:bS σ γ){t:TypeId}(hk:(ty P t).kind≠99){id r c:Nat}{cv:Value}(hv:aC σ.aa γ.w γ.Z γ.blk (.ptr id r c) cv){row:List AV}(bq:rowOf σ id r=some row){K:AV->Prop}(h:nJ (ty P t) row c K):
  ∃ v qC,(Instr.loadAt t cv).run P γ.w=.ok qC γ.w/\aC σ.aa γ.w γ.Z γ.blk v qC/\K v:=by
 obtain⟨b,base,cap,cur,tt,o,rfl,hb,lr,bx,lu,_,_⟩:=Hi hs hv bq;unfold nJ at h;simp only[Instr.loadAt,Instr.sureAddr,Sem.run_bind,Sem.run_pure,Result.andThen_ok];by_cases lM:(ty P t).isAgg=true
 ·rw[if_pos lM]at h;refine⟨_,_,HD hk b (base+c) (λj=>cur.getD (base+c+j) Go.undef) ?_,?_,h.2⟩
  ·intro j hj;rw[if_pos lM]at hj;exact BZ lr GC
  ·rw[if_pos lM];refine .agg _ _ aar (λj x hx=>?_);have hj:j<(ty P t).size:=by have:=(a8.1 hx).1;simp at this;omega
   rw[vS,if_pos hj,qc]at hx;have:=lu _ _ hx;simp[gm,hj];simpa [yH,gm] using this
 ·rw[if_neg lM]at h;cases hc:row[c]? with
  |none=>simp[hc]at h
  |some v =>
   simp only[hc]at h;have cm:=(a8.1 hc).1;refine⟨v,_,HD hk b (base+c) (λj=>cur.getD (base+c+j) Go.undef) ?_,?_,h⟩
   ·intro j hj;rw[if_neg lM]at hj;exact BZ lr GC
   ·rw[if_neg lM];exact lu _ _ hc
def aeL(_hs:bS σ γ){t:TypeId}(hk:(ty P t).kind≠99){cells:List AV}{cv:Value}(hv:aC σ.aa γ.w γ.Z γ.blk (.cq cells) cv){K:AV->Prop}(h:nJ (ty P t) cells 0 K):
  ∃ v qC,(Instr.loadAt t cv).run P γ.w=.ok qC γ.w/\aC σ.aa γ.w γ.Z γ.blk v qC/\K v:=by
 cases hv with
 |cC _ _ h=>cases h
 |cq _ b o f hz hc ht =>
 unfold nJ at h;simp only[Instr.loadAt,Instr.sureAddr,Sem.run_bind,Sem.run_pure,Result.andThen_ok];by_cases lM:(ty P t).isAgg=true
 ·rw[if_pos lM]at h;have hlen:(ty P t).size<=cells.length:=GC;refine⟨_,_,HD hk b o f ?_,?_,h.2⟩
  ·intro j hj;rw[if_pos lM]at hj;exact hc j cells[j] GF
  ·rw[if_pos lM];refine .agg _ _ aar (λj x hx=>?_);have hj:j<(ty P t).size:=by have:=(a8.1 hx).1;simp at this;omega
   rw[vS,if_pos hj,qc]at hx;simp at hx;simp[gm,hj];exact .cC _ _ (ht j x hx)
 ·rw[if_neg lM]at h;cases aR:cells[0]? with
  |none=>simp[aR]at h
  |some v =>
   simp only[aR]at h;refine⟨v,_,HD hk b o f ?_,?_,h⟩
   ·intro j hj;rw[if_neg lM]at hj;have:j=0:=GC;subst this;exact hc 0 v aR
   ·rw[if_neg lM];exact .cC _ _ (ht 0 v aR)
def Eh(cur:Array Value)(p:Nat)(vs:List Value)(hp:p+vs.length<=cur.size)(k:Nat):
  ((cur.toList.take p++vs++cur.toList.drop (p+vs.length)).toArray).getD k Go.undef=if p<=k/\k<p+vs.length then vs.getD (k-p) Go.undef else cur.getD k Go.undef:=by
 simp only[gm,List.getElem?_toArray,aA];by_cases h1:k<p
 ·rw[if_neg GC,List.append_assoc,cT aar,vS,if_pos h1];simp
 ·by_cases h2:k<p+vs.length
  ·rw[if_pos GC,cT aar,fV aar];simp;congr 3;omega
  ·rw[if_neg GC,fV aar];simp;congr 3;omega
def setRow_size(w:World)(g:Nat)(cs:Array Value):(w.setRow g cs).heap.size=w.heap.size:=by simp[World.setRow]
def aeM(hs:bS σ γ){t:TypeId}(hk:(ty P t).kind≠99){id r c:Nat}{cv xv:Value}(hv:aC σ.aa γ.w γ.Z γ.blk (.ptr id r c) cv){row:List AV}(bq:rowOf σ id r=some row){v:AV}(hx:aC σ.aa γ.w γ.Z γ.blk v xv)(h:(cellsOf v).length=(ty P t).size/\c+(ty P t).size<=row.length/\(cellsOf v).all cO=true):
  ∃ w',(Instr.storeAt t cv xv).run P γ.w=.ok () w'/\bS (pG σ id r (setCells row c (cellsOf v))) { γ with w:=w' }/\Fr σ.aa γ (pG σ id r (setCells row c (cellsOf v))).aa { γ with w:=w' }:=by
 obtain⟨b,base,cap,cur,tt,o,rfl,hb,lr,bx,lu,qD,Cc⟩:=Hi hs hv bq;obtain⟨h1,h2,h3⟩:=h;obtain⟨e1,e2,e3⟩:=Lb hx h3;have hlen:xv.cells.toList.length=(ty P t).size:=by simp[e1,h1]
 have fN:(Instr.storeAt t (.pointer (some ⟨b,base+c,none⟩)) xv).run P γ.w=.ok () (γ.w.setRow b (cur.toList.take (base+c)++xv.cells.toList++cur.toList.drop (base+c+xv.cells.toList.length)).toArray):=by
  have dP:=run_storeCells_at P b (base+c) tt xv.cells.toList 0 cur γ.w lr (by rw[hlen];omega) (λx hx=>e3 x (by simpa using hx));simp only[iS]at dP;simp only[Instr.storeAt,Instr.sureAddr,Sem.run_bind,Sem.run_pure,Result.andThen_ok,storeVar,run_sizeOf hk];have:¬ (xv.cells.size≠(ty P t).size):=by rw[e1,h1];simp
  rw[if_neg this];simpa using dP
 obtain⟨ob,ob',g1,g2,g3,g4,g5⟩:=Cc (setCells row c (cellsOf v)) (cur.toList.take (base+c)++xv.cells.toList++cur.toList.drop (base+c+xv.cells.toList.length)).toArray
  (Li _ _ _) (by simp[hlen];omega) (by
   intro j x hj;rw[R3 _ _ _ (by rw[h1];exact h2)]at hj;rw[Eh cur (base+c) xv.cells.toList (by rw[hlen];omega),hlen];by_cases ez:c<=j/\j<c+(cellsOf v).length
   ·rw[if_pos ez]at hj;rw[if_pos GC];have:=e2 _ _ hj;have e:base+j-(base+c)=j-c:=GC;rw[e];simpa [aA,gm] using this
   ·rw[if_neg ez]at hj;rw[if_neg GC];exact lu j x hj) (by
   intro k aK;rw[Eh cur (base+c) xv.cells.toList (by rw[hlen];omega),hlen];rw[if_neg GC])
 refine⟨_,fN,?_,?_⟩
 ·rw[g4];exact hs.write g1 g2 g3 hb (setRow_heap γ.w b cur _ tt _ lr) (λk hk=>setRow_other γ.w b k _ hk) (setRow_size _ _ _) g5
 ·rw[g4];exact Fr.write ob' g1 g2 g3 hb (λk hk=>setRow_other γ.w b k _ hk) (setRow_size _ _ _) rfl rfl rfl
end
end Go.Am
namespace Go.Am
variable {P:Program}
def bS.Au{σ:St}{γ:Cx}(h:bS σ γ){sz:Nat}(bx:0<sz):
  bS { σ with aa:=σ.aa++[.arr sz []] } { γ with blk:=dL γ.blk σ.aa.length none }:=by
 have hR:∀ v cv,aC σ.aa γ.w γ.Z γ.blk v cv->aC (σ.aa++[.arr sz []]) γ.w γ.Z (dL γ.blk σ.aa.length none) v cv:=λv cv hv =>
  hv.mono (λb hb=>⟨hb,rfl⟩) (λi o ho=>by
   have hi:i<σ.aa.length:=(a8.1 ho).1;have cG:(σ.aa++[.arr sz []])[i]?=some o:=by rw[cT hi];exact ho
   by_cases bP:o=.gone
   ·subst bP;exact .inl cG
   ·exact .inr ⟨by simp[dL,nI hi],o,cG,Ob.lk bP⟩)
 have cY:∀ i b,dL γ.blk σ.aa.length none i=some b->Live (σ.aa++[.arr sz []]) i->Live σ.aa i/\γ.blk i=some b:=by
  rintro i b hb⟨o,ho,bP⟩;simp only[dL]at hb;split at hb
  ·simp at hb
  ·rename_i dO;have hi:i<σ.aa.length:=by have:=(a8.1 ho).1;simp at this;omega
   rw[cT hi]at ho;exact⟨⟨o,ho,bP⟩,hb⟩
 refine⟨λk=>hR _ _ (h.aw k),?_,?_,?_,h.jh⟩
 ·intro i o ho;rcases fK i σ.aa.length with hi|hi
  ·rw[cT hi]at ho;exact(h.fL i o ho).mono hR (by simp[dL,nI hi]) (λ_ _ _ _=>rfl)
  ·have hi':i=σ.aa.length:=by have:=(a8.1 ho).1;simp at this;omega
   subst hi';simp at ho;subst ho;exact⟨bx,GF,.inl ⟨by simp[dL],rfl⟩⟩
 ·intro i j b o c o' c' hi hj iw iW;obtain⟨Cd,oD⟩:=cY i _ iw hi;obtain⟨qF,El⟩:=cY j _ iW hj;exact h.inj i j b o c o' c' Cd qF oD El
 ·rintro b ⟨i,o,c,hi,hb⟩;obtain⟨Cd,oD⟩:=cY i _ hb hi;exact h.nz b ⟨i,o,c,Cd,oD⟩
def Fr.Au(os:List Ob)(γ:Cx)(sz:Nat):Fr os γ (os++[.arr sz []]) { γ with blk:=dL γ.blk os.length none } where
 oh:=rfl
 tape:=rfl
 output:=rfl
 size:=aN _
 az:=λ_ _ _=>rfl
 z0:=λ_ h=>h
 z1:=λ_ h=>.inl h
 own:=by
  rintro b⟨i,o,c,⟨x,hx,eJ⟩,hb⟩;simp only[dL]at hb;split at hb
  ·simp at hb
  ·have hi:i<os.length:=by have:=(a8.1 hx).1;simp at this;omega
   rw[cT hi]at hx;exact .inl ⟨i,o,c,⟨x,hx,eJ⟩,hb⟩
 len:=GF
 mL:=by
  rintro i hi⟨x,hx,eJ⟩;have hx0:=hx;rw[cT hi]at hx;exact⟨by simp[dL,nI hi],x,x,hx,hx0,Ob.lk eJ⟩
def bS.Eg{σ:St}{γ:Cx}(h:bS σ γ){id:Nat}{ob ob':Ob}(ho:σ.aa[id]?=some ob)(hg:ob≠.gone){b o cap o' cap':Nat}(hb:γ.blk id=some (b,o,cap)){w':World}{cur:Array Value}{t:TypeId}(hw:w'.heap[b]?=some (.cells cur t (0,0)))(pL:∀ k,k≠b->w'.heap[k]?=γ.w.heap[k]?)(bx:w'.heap.size=γ.w.heap.size)(bk:uV σ.aa γ.w γ.Z γ.blk o' cap' cur ob'):
  bS { σ with aa:=σ.aa.set id .gone++[ob'] } { γ with w:=w',blk:=dL γ.blk σ.aa.length (some (b,o',cap')) }:=by
 have dt:id<σ.aa.length:=(a8.1 ho).1;have qD:Live σ.aa id:=⟨ob,ho,hg⟩;have hR:∀ v cv,aC σ.aa γ.w γ.Z γ.blk v cv->aC (σ.aa.set id .gone++[ob']) w' γ.Z (dL γ.blk σ.aa.length (some (b,o',cap'))) v cv:=λv cv hv =>
  hv.mono (λz hz=>⟨hz,pL z (λe=>h.nz b ⟨id,o,cap,qD,hb⟩ (e▸hz))⟩) (λi x hx=>by
   have hi:i<σ.aa.length:=(a8.1 hx).1;rw[cT (by simpa using hi),cA];by_cases oB:id=i
   ·left;simp[oB,hi]
   ·rw[if_neg oB];by_cases bP:x=.gone
    ·subst bP;exact .inl hx
    ·exact .inr ⟨by simp[dL,nI hi],x,hx,Ob.lk bP⟩)
 have cY:∀ i,Live (σ.aa.set id .gone++[ob']) i->i=σ.aa.length\/(i<σ.aa.length/\i≠id/\Live σ.aa i):=by
  rintro i⟨x,hx,eJ⟩;rcases fK i σ.aa.length with hi|hi
  ·right;rw[cT (by simpa using hi),cA]at hx;split at hx
   ·simp at hx;exact absurd hx.symm eJ
   ·rename_i dO;exact⟨hi,Ne.symm dO,x,hx,eJ⟩
  ·left;have:=(a8.1 hx).1;simp at this;omega
 refine⟨λk=>hR _ _ (h.aw k),?_,?_,?_,λz hz=>by rw[bx];exact h.jh z hz⟩
 ·intro i x hx;rcases fK i σ.aa.length with hi|hi
  ·rw[cT (by simpa using hi),cA]at hx;split at hx
   ·simp at hx;subst hx;trivial
   ·rename_i dO;by_cases bP:x=.gone
    ·subst bP;trivial
    ·refine(h.fL i x hx).mono hR (by simp[dL,nI hi]) (λz y c hz=>pL z (λe=>dO ?_));subst e;exact h.inj id i z o cap y c qD ⟨x,hx,bP⟩ hb hz
  ·have hi':i=σ.aa.length:=by have:=(a8.1 hx).1;simp at this;omega
   subst hi';rw[fV GF]at hx;simp at hx;subst hx;exact bk.Lv (b:=b) (cap:=cap') hR (by simp[dL]) hw
 ·intro i j z y c y' c' hi hj iw iW;simp only[dL]at iw iW;rcases cY i hi with rfl|⟨gD,R',hi'⟩<;>rcases cY j hj with rfl|⟨lK,afb,db⟩
  ·rfl
  ·rw[if_pos rfl]at iw;rw[if_neg (nI lK)]at iW;simp at iw;rw[<- iw.1]at iW;exact absurd (h.inj j id b y' c' o cap db qD iW hb) afb
  ·rw[if_pos rfl]at iW;rw[if_neg (nI gD)]at iw;simp at iW;rw[<- iW.1]at iw;exact absurd (h.inj i id b y c o cap hi' qD iw hb) R'
  ·rw[if_neg (nI gD)]at iw;rw[if_neg (nI lK)]at iW;exact h.inj i j z y c y' c' hi' db iw iW
 ·rintro z ⟨i,y,c,hi,hz⟩ o9;simp only[dL]at hz;rcases cY i hi with rfl|⟨gD,R',hi'⟩
  ·rw[if_pos rfl]at hz;simp at hz;rw[<- hz.1]at o9;exact h.nz b ⟨id,o,cap,qD,hb⟩ o9
  ·rw[if_neg (nI gD)]at hz;exact h.nz z ⟨i,y,c,hi',hz⟩ o9
def Fr.Eg{σ:St}{γ:Cx}{id:Nat}{ob:Ob}(ob':Ob)(ho:σ.aa[id]?=some ob)(hg:ob≠.gone){b o cap o' cap':Nat}(hb:γ.blk id=some (b,o,cap)){w':World}(pL:∀ k,k≠b->w'.heap[k]?=γ.w.heap[k]?)(bx:w'.heap.size=γ.w.heap.size)(h1:w'.os=γ.w.os)(h2:w'.tape=γ.w.tape)(h3:w'.output=γ.w.output):
  Fr σ.aa γ (σ.aa.set id .gone++[ob']) { γ with w:=w',blk:=dL γ.blk σ.aa.length (some (b,o',cap')) } where
 oh:=h1
 tape:=h2
 output:=h3
 size:=by simp[bx]
 az:=λz _ nS=>pL z (λe=>nS ⟨id,o,cap,⟨ob,ho,hg⟩,e▸hb⟩)
 z0:=λ_ h=>h
 z1:=λ_ h=>.inl h
 own:=by
  rintro z⟨i,y,c,⟨x,hx,eJ⟩,hz⟩;simp only[dL]at hz;split at hz
  ·simp at hz;left;exact⟨id,o,cap,⟨ob,ho,hg⟩,by rw[hb,hz.1]⟩
  ·have hi:i<σ.aa.length:=by have:=(a8.1 hx).1;simp at this;omega
   rw[cT (by simpa using hi),cA]at hx;split at hx
   ·split at hx<;>simp at hx;exact absurd hx.symm eJ
   ·exact .inl ⟨i,y,c,⟨x,hx,eJ⟩,hz⟩
 len:=GF
 mL:=by
  rintro i hi⟨x,hx,eJ⟩;have hx0:=hx;rw[cT (by simpa using hi),cA]at hx;split at hx
  ·split at hx<;>simp at hx;exact absurd hx.symm eJ
  ·exact⟨by simp[dL,nI hi],x,x,hx,hx0,Ob.lk eJ⟩
def RZ{σ:St}{γ:Cx}(h:bS σ γ){x:AV}{cv:Value}(hv:aC σ.aa γ.w γ.Z γ.blk x cv){sz:Nat}(bx:0<sz){src:List (List AV)}(hs:pI σ x=some (sz,src)):
  ∃ ad c,∃ g:Nat->Value,cv=.slice ad src.length c/\(∀ row∈src,row.length=sz)/\(0<src.length->∃ b o,ad=some ⟨b,o,none⟩/\∀ j,j<src.length*sz->γ.w.cell? ⟨b,o+j,none⟩=some (g j)) /\
   ∀ r c v,cellAt src r c=some v->aC σ.aa γ.w γ.Z γ.blk v (g (r*sz+c)):=by
 cases x with
 |tree dK rows =>
  simp[pI]at hs;obtain⟨rfl,rfl⟩:=hs;cases hv.Ao with
  |nil _ cap a=>exact⟨a,cap,λ_=>Go.undef,rfl,GF,GF,by simp[cellAt]⟩
  |tree _ _ b o cap f hz hr Ej hc ht =>
   refine⟨_,cap,λj=>f (j/dK) (j%dK),rfl,hr,λhlen=>⟨b,o,rfl,?_⟩,?_⟩
   ·intro j hj;have h1:j/dK<rows.length:=Nat.div_lt_of_lt_mul (by rw[tA];exact hj);have h2:j%dK<dK:=Nat.mod_lt _ bx;have cD:(rows[j/dK]).length=dK:=hr _ (List.getElem_mem h1);have:=hc (j/dK) (j%dK) ((rows[j/dK])[j%dK]' GC) (by simp[cellAt,h1,h2,cD]);have e:j/dK*dK+j%dK=j:=by rw[tA];exact Nat.div_add_mod j dK
    rw[e]at this;exact this
   ·intro r c v bD;have cm:c<dK:=by
     simp only[cellAt,yE]at bD;obtain⟨y,hy,rM⟩:=bD;have:=hr y (iD hy);have:=(a8.1 rM).1;omega
    have e1:(r*dK+c)/dK=r:=by rw[tA,Nat.mul_add_div bx,Nat.div_eq_of_lt cm];rfl
    have e2:(r*dK+c)%dK=c:=by rw[tA,Nat.mul_add_mod,Nat.mod_eq_of_lt cm]
    simp only[e1,e2];exact .cC _ _ (ht r c v bD)
 |ref id dK off len =>
  simp only[pI]at hs;cases ho:σ.aa[id]? with
  |none=>simp[ho]at hs
  |some ob =>
   have bk:=h.fL id ob ho;cases ob with
   |gone=>simp[ho]at hs
   |mp ag L=>simp[ho]at hs
   |var cells=>simp[ho]at hs
   |arr mg rows =>
    simp only[ho]at hs;split at hs
    ·rename_i he;subst he;simp at hs;obtain⟨rfl,rfl⟩:=hs;obtain⟨_,cD,bk⟩:=bk;cases hv with
     |cC _ _ h=>cases h
     |mh _ _ _ _ _ h=>rw[ho]at h;simp at h
     |nN _ _ h hb =>
      rw[ho]at h;simp at h;subst h;exact⟨none,0,λ_=>Go.undef,rfl,GF,GF,by simp[cellAt]⟩
     |ow _ _ _ b x bo iI h hb hl =>
      exact⟨some ⟨b,x,none⟩,0,λ_=>Go.undef,GF,GF,GF,by simp[cellAt]⟩
     |ref _ _ _ _ b o cap cap' iI h hb hl hc lh =>
      rw[ho]at h;simp at h;subst h;rcases bk with⟨h1,_⟩|⟨b',o',DT,cur,t,h1,h2,h3,h4,h5,h6⟩
      ·rw[hb]at h1;simp at h1
      ·rw[hb]at h1;simp at h1;obtain⟨rfl,rfl,rfl⟩:=h1;have hlen:((rows.drop off).take len).length=len:=aar;refine⟨_,cap',λj=>cur.getD (o+off*mg+j) Go.undef,by rw[hlen],?_,λ_=>⟨b,o+off*mg,rfl,?_⟩,?_⟩
       ·intro row bq;exact cD row (List.mem_of_mem_drop (List.mem_of_mem_take bq))
       ·intro j hj;rw[hlen]at hj;refine BZ h2 ?_;have:(off+len)*mg<=cap*mg:=oV _ GC;rw[gR]at this;omega
       ·intro r c v bD;simp only[cellAt,vS,qc]at bD;split at bD
        ·have:=h6 (off+r) c v bD;rw[gR]at this;have e:o+(off*mg+r*mg+c)=o+off*mg+(r*mg+c):=GC;rw[e]at this;exact this
        ·simp at bD
    ·simp at hs
 |_=>simp[pI]at hs
end Go.Am

