import Derived.Test.YtdipcmigdbnheaaGreatXAA
import Derived.Orders
import Derived.Laws.AppendOwn
import Derived.Laws.MakeOwn
import Derived.Laws.Slices
import Derived.Laws.Small
set_option linter.all false
set_option maxHeartbeats 0
set_option maxRecDepth 20000
open Nat renaming le_refl→aG,le_trans→iM,lt_of_lt_of_le→EJ,ne_of_lt→k9,lt_or_ge→eh,mul_le_mul_right→lW,add_mul→eX,add_assoc→ui,add_zero→jb,mul_comm→pB
open List renaming getElem?_eq_some_iff→aM,getElem?_append_left→cd,getElem?_set→bV,range→aN,replicate→b6,mem_of_getElem?→gf,length_cons→dz,getElem?_take→rN,getElem?_drop→mY,getD_eq_getElem?_getD→aA,getElem?_append_right→eu
open Array renaming getD_eq_getD_getElem?→eN,getElem?_eq_some_iff→nZ
open Option renaming bind_eq_some_iff→vD
namespace Go.Am
inductive AV where
 |undef
 |lit (v:Value)
 |tree (sz:Nat) (rows:List (List AV))
 |cq (cells:List AV)
 |ref (id sz off len:Nat)
 |ptr (id r c:Nat)
 |agg (cs:List AV)
 |bO (vs:List AV)
 |fn (f:FuncId) (aT:List AV)
 |gm (t:TypeId) (v:AV)
 |fT (id:Nat)
 deriving Inhabited
abbrev aa3(n:Int):AV:=.lit (.int .i64 n)
inductive Ob where
 |gone
 |var (cells:List AV)
 |arr (sz:Nat) (rows:List (List AV))
 |mp (ag:Nat) (L:List (List Int×AV))
 deriving Inhabited
structure St where
 env:Nat->AV
 aa:List Ob
def iv(e:Nat->AV)(d:Nat)(v:AV):Nat->AV:=λk=>if k=d then v else e k
def cellAt(rows:List (List AV))(r c:Nat):Option AV:=(rows[r]?).bind (·[c]?)
def fI(ix:List (Value×Value)):Array MapEntry:=(ix.mapIdx λi p=>(⟨p.1,p.2,i⟩:MapEntry)).toArray
def kV(ag:Nat)(l:List Int):Value:=if ag=0 then .int .i64 (l.headD 0) else .agg (l.map λn=>.int .i64 n).toArray
def jA(ag:Nat):Nat:=if ag=0 then 1 else ag
def dg(ag:Nat)(f:Nat->Value)(L:List (List Int×AV)):List (Value×Value):=L.mapIdx λj p=>(kV ag p.1,f j)
def Fl(ag:Nat)(f:Nat->Value)(g:AV->AV)(L:List (List Int×AV)):dg ag f (L.map λp=>(p.1,g p.2))=dg ag f L:=by
 unfold dg;apply List.ext_getElem
 ·simp
 ·intros;simp
abbrev gn:=Nat->Option (Nat×Nat×Nat)
inductive gj(w:World)(Z:Nat->Prop):AV->Value->Prop where
 |lit (v:Value):gj w Z (.lit v) v
 |nil (sz cap:Nat) (a:Option Addr):gj w Z (.tree sz []) (.slice a 0 cap)
 |tree (sz:Nat) (rows:List (List AV)) (b o cap:Nat) (f:Nat->Nat->Value) (hz:Z b) (hr:∀ row∈rows,row.length=sz) (zV:rows.length<=cap)
   (hc:∀ r c x,cellAt rows r c=some x->w.cell? ⟨b,o+(r*sz+c),none⟩=some (f r c))
   (ht:∀ r c x,cellAt rows r c=some x->gj w Z x (f r c)):gj w Z (.tree sz rows) (.slice (some ⟨b,o,none⟩) rows.length cap)
inductive az(os:List Ob)(w:World)(Z:Nat->Prop)(blk:gn):AV->Value->Prop where
 |undef (cv:Value):az os w Z blk .undef cv
 |bS (v:AV) (cv:Value) (h:gj w Z v cv):az os w Z blk v cv
 |cq (cells:List AV) (b o:Nat) (f:Nat->Value) (hz:Z b) (hc:∀ j x,cells[j]?=some x->w.cell? ⟨b,o+j,none⟩=some (f j))
   (ht:∀ j x,cells[j]?=some x->gj w Z x (f j)):az os w Z blk (.cq cells) (.pointer (some ⟨b,o,none⟩))
 |j6 (id sz off len:Nat) (cv:Value) (h:os[id]?=some .gone) (h1:cv.oneCell'=true):az os w Z blk (.ref id sz off len) cv
 |lC (id r c:Nat) (cv:Value) (h:os[id]?=some .gone) (h1:cv.oneCell'=true):az os w Z blk (.ptr id r c) cv
 |ref (id sz off len b o cap cap':Nat) (rows:List (List AV)) (h:os[id]?=some (.arr sz rows)) (hb:blk id=some (b,o,cap))
   (hl:off+len<=rows.length) (hc:off+cap'<=cap) (kI:len<=cap'):az os w Z blk (.ref id sz off len) (.slice (some ⟨b,o+off*sz,none⟩) len cap')
 |ll (id sz:Nat) (h:os[id]?=some (.arr sz [])) (hb:blk id=none):az os w Z blk (.ref id sz 0 0) (.slice none 0 0)
 |lD (id sz off b x:Nat) (bo:Nat×Nat) (rows:List (List AV)) (h:os[id]?=some (.arr sz rows)) (hb:blk id=some (b,bo)) (hl:off<=rows.length) :
   az os w Z blk (.ref id sz off 0) (.slice (some ⟨b,x,none⟩) 0 0)
 |l4 (id c b cap:Nat) (cells:List AV) (h:os[id]?=some (.var cells)) (hb:blk id=some (b,0,cap)):az os w Z blk (.ptr id 0 c) (.pointer (some ⟨b,c,none⟩))
 |mG (id r c sz b o cap:Nat) (rows:List (List AV)) (h:os[id]?=some (.arr sz rows)) (hb:blk id=some (b,o,cap)) :
   az os w Z blk (.ptr id r c) (.pointer (some ⟨b,o+(r*sz+c),none⟩))
 |agg (cs:List AV) (a7:Array Value) (hs:a7.size=cs.length) (h:∀ j x,cs[j]?=some x->az os w Z blk x (a7.getD j Go.undef)):az os w Z blk (.agg cs) (.agg a7)
 |bO (cs:List AV) (a7:Array Value) (hs:a7.size=cs.length) (h:∀ j x,cs[j]?=some x->az os w Z blk x (a7.getD j Go.undef)):az os w Z blk (.bO cs) (.tuple a7)
 |fn (f:FuncId) (cs:List AV) (a7:Array Value) (hs:a7.size=cs.length) (h:∀ j x,cs[j]?=some x->az os w Z blk x (a7.getD j Go.undef)) :
   az os w Z blk (.fn f cs) (.func (.func f) #[] a7)
 |gm (t:TypeId) (v:AV) (cv:Value) (h:az os w Z blk v cv):az os w Z blk (.gm t v) (.iface t cv)
 |fT (id b:Nat) (ag:Nat) (L:List (List Int×AV)) (h:os[id]?=some (.mp ag L)) (hb:blk id=some (b,0,0)):az os w Z blk (.fT id) (.map (some b))
 |oS (id:Nat) (cv:Value) (h:os[id]?=some .gone) (h1:cv.oneCell'=true):az os w Z blk (.fT id) cv
def wx (os:List Ob) (w:World) (Z:Nat->Prop) (blk:gn) (i:Nat):Ob->Prop
  | .gone=>True
  | .var cells=>∃ b cap cur t,blk i=some (b,0,cap)/\w.heap[b]?=some (.cells cur t (0,0))/\cur.size=cells.length /\
      ∀ c v,cells[c]?=some v->az os w Z blk v (cur.getD c Go.undef)
  | .arr sz rows=>0<sz/\(∀ row∈rows,row.length=sz) /\
      ((blk i=none/\rows=[])\/∃ b o cap cur t,blk i=some (b,o,cap)/\w.heap[b]?=some (.cells cur t (0,0))/\o+cap * sz<=cur.size/\rows.length<=cap/\cap<=maxLen /\
        ∀ r c v,cellAt rows r c=some v->az os w Z blk v (cur.getD (o+(r * sz+c)) Go.undef))
  | .mp ag L=>∃ b,∃ f:Nat->Value,blk i=some (b,0,0)/\w.heap[b]?=some (.map (fI (dg ag f L)) L.length)/\(∀ p∈L,p.1.length=jA ag)/\∀ (j:Nat) p,L[j]?=some p->az os w Z blk p.2 (f j)
structure Cx where
 w:World
 tmps:Array Value
 Z:Nat->Prop
 blk:gn
def Live(os:List Ob)(i:Nat):Prop:=∃ o,os[i]?=some o/\o≠.gone
def nt(os:List Ob)(blk:gn)(b:Nat):Prop:=∃ i o cap,Live os i/\blk i=some (b,o,cap)
structure bk(σ:St)(γ:Cx):Prop where
 ax:∀ k,az σ.aa γ.w γ.Z γ.blk (σ.env k) (γ.tmps.getD k Go.undef)
 ei:∀ (i:Nat) o,σ.aa[i]?=some o->wx σ.aa γ.w γ.Z γ.blk i o
 inj:∀ i j b o c o' c',Live σ.aa i->Live σ.aa j->γ.blk i=some (b,o,c)->γ.blk j=some (b,o',c')->i=j
 nz:∀ b,nt σ.aa γ.blk b->¬ γ.Z b
 gD:∀ b,γ.Z b->b<γ.w.heap.size
def Ob.dP:Ob->Ob->Prop
 |.var a,.var b=>a.length=b.length
 |.arr s a,.arr s' b=>s=s'/\a.length=b.length
 |.mp a _,.mp b _=>a=b
 |_,_=>False
def Ob.jz{o:Ob}(h:o≠.gone):o.dP o:=by
 cases o<;>simp_all [Ob.dP]
def Ob.F0{a b c:Ob}(h:a.dP b)(k:b.dP c):a.dP c:=by
 cases a<;>cases b<;>cases c<;>simp_all [Ob.dP]
def Ob.X7{a b:Ob}(h:a.dP b):a≠.gone/\b≠.gone:=by
 cases a<;>cases b<;>simp_all [Ob.dP]
structure Fr(xY:List Ob)(oh:Cx)(os:List Ob)(γ:Cx):Prop where
 lB:γ.w.os=oh.w.os
 tape:γ.w.tape=oh.w.tape
 output:γ.w.output=oh.w.output
 size:oh.w.heap.size<=γ.w.heap.size
 aw:∀ b,b<oh.w.heap.size->¬ nt xY oh.blk b->γ.w.heap[b]?=oh.w.heap[b]?
 z0:∀ b,oh.Z b->γ.Z b
 z1:∀ b,γ.Z b->oh.Z b\/nt xY oh.blk b\/oh.w.heap.size<=b
 own:∀ b,nt os γ.blk b->nt xY oh.blk b\/oh.w.heap.size<=b
 len:xY.length<=os.length
 ki:∀ i,i<xY.length->Live os i->γ.blk i=oh.blk i/\∃ o o',xY[i]?=some o/\os[i]?=some o'/\o.dP o'
def Fr.refl(os:List Ob)(γ:Cx):Fr os γ os γ :=
 ⟨rfl,rfl,rfl,aG _,λ_ _ _=>rfl,λ_ h=>h,λ_ h=>.inl h,λ_ h=>.inl h,aG _,λ_ _ ⟨o,ho,hg⟩=>⟨rfl,o,o,ho,ho,Ob.jz hg⟩⟩
def Fr.trans{a b c:List Ob}{x y z:Cx}(h:Fr a x b y)(k:Fr b y c z):Fr a x c z where
 lB:=k.lB.trans h.lB
 tape:=k.tape.trans h.tape
 output:=k.output.trans h.output
 size:=iM h.size k.size
 aw:=λn hn ho=>(k.aw n (EJ hn h.size) (λhw=>(h.own n hw).elim ho (λhl=>I6))).trans (h.aw n hn ho)
 z0:=λn hn=>k.z0 n (h.z0 n hn)
 z1:=λn hn=>by
  rcases k.z1 n hn with h1|h1|h1
  ·exact h.z1 n h1
  ·rcases h.own n h1 with h2|h2
   ·exact .inr (.inl h2)
   ·exact .inr (.inr h2)
  ·exact .inr (.inr (iM h.size h1))
 own:=λn hn=>by
  rcases k.own n hn with h1|h1
  ·exact h.own n h1
  ·exact .inr (iM h.size h1)
 len:=iM h.len k.len
 ki:=λi hi hl=>by
  obtain⟨h1,o,o',ho,cL,hk⟩:=k.ki i (EJ hi h.len) hl;obtain⟨h3,x,x',hx,cZ,aJ⟩:=h.ki i hi ⟨o,ho,(Ob.X7 hk).1⟩;rw[ho]at cZ;simp at cZ;subst cZ;exact⟨h1.trans h3,x,o',hx,cL,Ob.F0 aJ hk⟩
def Lx{w w':World}{b o:Nat}(h:w'.heap[b]?=w.heap[b]?):w'.cell? ⟨b,o,none⟩=w.cell? ⟨b,o,none⟩:=by
 simp[World.cell?,h]
def gj.mono{w w':World}{Z Z':Nat->Prop}{v:AV}{cv:Value}(h:gj w Z v cv)(hz:∀ b,Z b->Z' b/\w'.heap[b]?=w.heap[b]?):gj w' Z' v cv:=by
 induction h with
 |lit v=>exact .lit v
 |nil sz cap a=>exact .nil sz cap a
 |tree sz rows b o cap f te hr zV hc _ ih =>
  exact .tree sz rows b o cap f (hz b te).1 hr zV (λr c x hx=>by rw[Lx (hz b te).2];exact hc r c x hx) ih
def az.mono{os os':List Ob}{w w':World}{Z Z':Nat->Prop}{blk jL:gn}{v:AV}{cv:Value}(h:az os w Z blk v cv)(hz:∀ b,Z b->Z' b/\w'.heap[b]?=w.heap[b]?)(ho:∀ i o,os[i]?=some o->os'[i]?=some .gone\/(jL i=blk i/\∃ o',os'[i]?=some o'/\o.dP o')):az os' w' Z' jL v cv:=by
 induction h with
 |undef cv=>exact .undef cv
 |bS v cv h=>exact .bS v cv (h.mono hz)
 |cq cells b o f te hc ht =>
  exact .cq cells b o f (hz b te).1 (λj x hx=>by rw[Lx (hz b te).2];exact hc j x hx) (λj x hx=>(ht j x hx).mono hz)
 |j6 id sz off len cv h h1 =>
  rcases ho id _ h with h'|⟨_,o',_,hl⟩
  ·exact .j6 id sz off len cv h' h1
  ·exact absurd hl (by simp[Ob.dP])
 |lC id r c cv h h1 =>
  rcases ho id _ h with h'|⟨_,o',_,hl⟩
  ·exact .lC id r c cv h' h1
  ·exact absurd hl (by simp[Ob.dP])
 |ref id sz off len b o cap cap' rows h hb hl hc kI =>
  rcases ho id _ h with h'|⟨fm,o',cL,hk⟩
  ·exact .j6 _ _ _ _ _ h' rfl
  ·cases o'<;>simp[Ob.dP]at hk;obtain⟨rfl,hk⟩:=hk;exact .ref id sz off len b o cap cap' _ cL (fm.trans hb) I6 hc kI
 |ll id sz h hb =>
  rcases ho id _ h with h'|⟨fm,o',cL,hk⟩
  ·exact .j6 _ _ _ _ _ h' rfl
  ·cases o'<;>simp[Ob.dP]at hk;obtain⟨rfl,hk⟩:=hk;have aJ:=List.eq_nil_of_length_eq_zero hk.symm;subst aJ;exact .ll id sz cL (fm.trans hb)
 |lD id sz off b x bo rows h hb hl =>
  rcases ho id _ h with h'|⟨fm,o',cL,hk⟩
  ·exact .j6 _ _ _ _ _ h' rfl
  ·cases o'<;>simp[Ob.dP]at hk;obtain⟨rfl,hk⟩:=hk;exact .lD id sz off b x bo _ cL (fm.trans hb) I6
 |l4 id c b cap cells h hb =>
  rcases ho id _ h with h'|⟨fm,o',cL,hk⟩
  ·exact .lC _ _ _ _ h' rfl
  ·cases o'<;>simp[Ob.dP]at hk;exact .l4 id c b cap _ cL (fm.trans hb)
 |mG id r c sz b o cap rows h hb =>
  rcases ho id _ h with h'|⟨fm,o',cL,hk⟩
  ·exact .lC _ _ _ _ h' rfl
  ·cases o'<;>simp[Ob.dP]at hk;obtain⟨rfl,hk⟩:=hk;exact .mG id r c sz b o cap _ cL (fm.trans hb)
 |agg cs a7 hs _ ih=>exact .agg cs a7 hs ih
 |bO cs a7 hs _ ih=>exact .bO cs a7 hs ih
 |fn f cs a7 hs _ ih=>exact .fn f cs a7 hs ih
 |gm t v cv _ ih=>exact .gm t v cv ih
 |fT id b ag L h hb =>
  rcases ho id _ h with h'|⟨fm,o',cL,hk⟩
  ·exact .oS _ _ h' rfl
  ·cases o'<;>simp[Ob.dP]at hk;subst hk;exact .fT id b _ _ cL (fm.trans hb)
 |oS id cv h h1 =>
  rcases ho id _ h with h'|⟨_,o',cL,hk⟩
  ·exact .oS _ _ h' h1
  ·cases o'<;>simp[Ob.dP]at hk
def Live.lt{os:List Ob}{i:Nat}(h:Live os i):i<os.length:=by
 obtain⟨o,ho,_⟩:=h;exact(aM.1 ho).1
def az.same{os:List Ob}{w w':World}{Z:Nat->Prop}{blk:gn}{v:AV}{cv:Value}(h:az os w Z blk v cv)(hw:w'.heap=w.heap):az os w' Z blk v cv :=
 h.mono (λb hb=>⟨hb,by rw[hw]⟩) (λi o ho=>by
  by_cases hg:o=.gone
  ·subst hg;exact .inl ho
  ·exact .inr ⟨rfl,o,ho,Ob.jz hg⟩)
def wx.mono{os os':List Ob}{w w':World}{Z Z':Nat->Prop}{blk jL:gn}{i:Nat}{o:Ob}(h:wx os w Z blk i o)(hR:∀ v cv,az os w Z blk v cv->az os' w' Z' jL v cv)(hb:jL i=blk i)(hk:∀ b o c,blk i=some (b,o,c)->w'.heap[b]?=w.heap[b]?):wx os' w' Z' jL i o:=by
 cases o with
 |gone=>trivial
 |var cells =>
  obtain⟨b,cap,cur,t,h1,h2,h3,h4⟩:=h;exact⟨b,cap,cur,t,hb.trans h1,(hk _ _ _ h1).trans h2,h3,λc v hv=>hR _ _ (h4 c v hv)⟩
 |arr sz rows =>
  obtain⟨h0,hr,h⟩:=h;refine⟨h0,hr,?_⟩;rcases h with⟨h1,h2⟩|⟨b,o,cap,cur,t,h1,h2,h3,h4,h5,h6⟩
  ·exact .inl ⟨hb.trans h1,h2⟩
  ·exact .inr ⟨b,o,cap,cur,t,hb.trans h1,(hk _ _ _ h1).trans h2,h3,h4,h5,λr c v hv=>hR _ _ (h6 r c v hv)⟩
 |mp ag L =>
  obtain⟨b,f,h1,h2,h3,h4⟩:=h;exact⟨b,f,hb.trans h1,(hk _ _ _ h1).trans h2,h3,λj p hp=>hR _ _ (h4 j p hp)⟩
def bk.put{σ:St}{γ:Cx}(h:bk σ γ)(d:Nat)(hd:d<γ.tmps.size){v:AV}{cv:Value}(hv:az σ.aa γ.w γ.Z γ.blk v cv):
  bk { σ with env:=iv σ.env d v } { γ with tmps:=γ.tmps.setIfInBounds d cv } where
 ax:=λk=>by
  simp only[iv];by_cases hk:k=d
  ·subst hk;simp[eN,hd];exact hv
  ·simp only[hk,if_false,eN,Array.getElem?_setIfInBounds_ne (Ne.symm hk)];have:=h.ax k;simpa [eN] using this
 ei:=h.ei
 inj:=h.inj
 nz:=h.nz
 gD:=h.gD
def bk.Ft{σ:St}{γ:Cx}(h:bk σ γ){w':World}(hw:w'.heap=γ.w.heap):bk σ { γ with w:=w' } where
 ax:=λk=>(h.ax k).same hw
 ei:=λi o ho=>(h.ei i o ho).mono (λv cv hv=>hv.same hw) rfl (λb _ _ _=>by rw[hw])
 inj:=h.inj
 nz:=h.nz
 gD:=λb hb=>by have:=h.gD b hb;simpa [hw] using this
def Fr.Ft{a b:List Ob}{x y:Cx}(h:Fr a x b y){w':World}(hw:w'.heap=y.w.heap)(h1:w'.os=y.w.os)(h2:w'.tape=y.w.tape)(h3:w'.output=y.w.output):
  Fr a x b { y with w:=w' } :=
 h.trans ⟨h1,h2,h3,by simp[hw],λ_ _ _=>by simp[hw],λ_ h=>h,λ_ h=>.inl h,λ_ h=>.inl h,aG _,λ_ _ ⟨o,ho,hg⟩=>⟨rfl,o,o,ho,ho,Ob.jz hg⟩⟩
def Fr.put{a b:List Ob}{x y:Cx}(h:Fr a x b y)(t:Array Value):Fr a x b { y with tmps:=t }:=⟨h.lB,h.tape,h.output,h.size,h.aw,h.z0,h.z1,h.own,h.len,h.ki⟩
def cM(blk:gn)(n:Nat)(x:Option (Nat×Nat×Nat)):gn:=λi=>if i=n then x else blk i
def qO(os:List Ob)(w:World)(Z:Nat->Prop)(blk:gn)(o cap:Nat)(cur:Array Value):Ob->Prop
 |.gone=>True
 |.var cells=>o=0/\cur.size=cells.length/\∀ c v,cells[c]?=some v->az os w Z blk v (cur.getD c Go.undef)
 |.arr sz rows=>0<sz/\(∀ row∈rows,row.length=sz)/\o+cap*sz<=cur.size/\rows.length<=cap/\cap<=maxLen /\
    ∀ r c v,cellAt rows r c=some v->az os w Z blk v (cur.getD (o+(r*sz+c)) Go.undef)
 |.mp _ _=>False
def qO.F1{os os':List Ob}{w w':World}{Z Z':Nat->Prop}{blk jL:gn}{i b o cap:Nat}{cur:Array Value}{t:TypeId}{ob:Ob}(h:qO os w Z blk o cap cur ob)(hR:∀ v cv,az os w Z blk v cv->az os' w' Z' jL v cv)(hb:jL i=some (b,o,cap))(hk:w'.heap[b]?=some (.cells cur t (0,0))):wx os' w' Z' jL i ob:=by
 cases ob with
 |gone=>trivial
 |var cells =>
  obtain⟨h0,h1,h2⟩:=h;subst h0;exact⟨b,cap,cur,t,hb,hk,h1,λc v hv=>hR _ _ (h2 c v hv)⟩
 |arr sz rows =>
  obtain⟨h0,h1,h2,h3,h4,h5⟩:=h;exact⟨h0,h1,.inr ⟨b,o,cap,cur,t,hb,hk,h2,h3,h4,λr c v hv=>hR _ _ (h5 r c v hv)⟩⟩
 |mp ag L=>exact h.elim
def bk.zK{σ:St}{γ:Cx}(h:bk σ γ){w':World}{x:Obj}{cap:Nat}{ob:Ob}(hw:w'.heap=γ.w.heap.push x)(aP:∀ os' w' jL,(∀ v cv,az σ.aa γ.w γ.Z γ.blk v cv->az os' w' γ.Z jL v cv)->jL σ.aa.length=some (γ.w.heap.size,0,cap)->w'.heap[γ.w.heap.size]?=some x->wx os' w' γ.Z jL σ.aa.length ob):
  bk { σ with aa:=σ.aa++[ob] } { γ with w:=w',blk:=cM γ.blk σ.aa.length (some (γ.w.heap.size,0,cap)) }:=by
 have bq:∀ b,b<γ.w.heap.size->w'.heap[b]?=γ.w.heap[b]?:=λb hb=>by
  rw[hw,Array.getElem?_push,if_neg I6]
 have hR:∀ v cv,az σ.aa γ.w γ.Z γ.blk v cv->az (σ.aa++[ob]) w' γ.Z (cM γ.blk σ.aa.length (some (γ.w.heap.size,0,cap))) v cv:=λv cv hv =>
  hv.mono (λb hb=>⟨hb,bq b (h.gD b hb)⟩) (λi o ho=>by
   have hi:i<σ.aa.length:=(aM.1 ho).1;have cL:(σ.aa++[ob])[i]?=some o:=by rw[cd hi];exact ho
   by_cases cK:o=.gone
   ·subst cK;exact .inl cL
   ·exact .inr ⟨by simp[cM,k9 hi],o,cL,Ob.jz cK⟩)
 have cp:∀ i,Live (σ.aa++[ob]) i->i=σ.aa.length\/Live σ.aa i:=by
  rintro i⟨o,ho,cK⟩;rcases eh i σ.aa.length with hi|hi
  ·rw[cd hi]at ho;exact .inr ⟨o,ho,cK⟩
  ·left;have:=(aM.1 ho).1;simp at this;omega
 have nq:∀ i b o c,Live σ.aa i->γ.blk i=some (b,o,c)->b<γ.w.heap.size:=by
  rintro i b o c⟨x,hx,eQ⟩hb;have:=h.ei i x hx;cases x with
  |gone=>exact absurd rfl eQ
  |var cells =>
   obtain⟨b',cap',nD,t',h1,h2,_⟩:=this;rw[hb]at h1;simp at h1;obtain⟨rfl,_⟩:=h1;exact(nZ.1 h2).1
  |arr sz rows =>
   obtain⟨_,_,⟨h1,_⟩|⟨b',o',cap',nD,t',h1,h2,_⟩⟩:=this
   ·rw[hb]at h1;simp at h1
   ·rw[hb]at h1;simp at h1;obtain⟨rfl,_⟩:=h1;exact(nZ.1 h2).1
  |mp ag L =>
   obtain⟨b',f',h1,h2,_⟩:=this;rw[hb]at h1;simp at h1;obtain⟨rfl,_⟩:=h1;exact(nZ.1 h2).1
 refine⟨λk=>hR _ _ (h.ax k),?_,?_,?_,?_⟩
 ·intro i o ho;rcases eh i σ.aa.length with hi|hi
  ·have cL:σ.aa[i]?=some o:=by rw[cd hi]at ho;exact ho
   by_cases cK:o=.gone
   ·subst cK;trivial
   ·refine(h.ei i o cL).mono hR (by simp[cM,k9 hi]) (λb x c hb=>bq b (nq i b x c ⟨o,cL,cK⟩ hb))
  ·have hi':i=σ.aa.length:=by
    have:=(aM.1 ho).1;simp at this;omega
   subst hi';simp at ho;subst ho;exact aP _ _ _ hR (by simp[cM]) (by rw[hw];simp)
 ·intro i j b o c o' c' hi hj fC fU;simp only[cM]at fC fU;rcases cp i hi with rfl|hi'<;>rcases cp j hj with rfl|dG
  ·rfl
  ·rw[if_pos rfl]at fC;rw[if_neg (k9 dG.lt)]at fU;have:=nq _ _ _ _ dG fU;simp at fC;omega
  ·rw[if_pos rfl]at fU;rw[if_neg (k9 hi'.lt)]at fC;have:=nq _ _ _ _ hi' fC;simp at fU;omega
  ·rw[if_neg (k9 dG.lt)]at fU;rw[if_neg (k9 hi'.lt)]at fC;exact h.inj i j b o c o' c' hi' dG fC fU
 ·rintro b ⟨i,o,c,hi,hb⟩ hz;simp only[cM]at hb;rcases cp i hi with rfl|hi'
  ·rw[if_pos rfl]at hb;simp at hb;have:=h.gD b hz;omega
  ·rw[if_neg (k9 hi'.lt)]at hb;exact h.nz b ⟨i,o,c,hi',hb⟩ hz
 ·intro b hb;have:=h.gD b hb;rw[hw];simp;omega
def bk.push{σ:St}{γ:Cx}(h:bk σ γ){w':World}{cur:Array Value}{t:TypeId}{cap:Nat}{ob:Ob}(hw:w'.heap=γ.w.heap.push (.cells cur t (0,0)))(aP:qO σ.aa γ.w γ.Z γ.blk 0 cap cur ob):
  bk { σ with aa:=σ.aa++[ob] } { γ with w:=w',blk:=cM γ.blk σ.aa.length (some (γ.w.heap.size,0,cap)) } :=
 h.zK hw λ_ _ _ hR hb hk=>aP.F1 hR hb hk
def bk.blt{σ:St}{γ:Cx}(h:bk σ γ){i b o c:Nat}(hl:Live σ.aa i)(hb:γ.blk i=some (b,o,c)):b<γ.w.heap.size:=by
 obtain⟨x,hx,eQ⟩:=hl;have:=h.ei i x hx;cases x with
 |gone=>exact absurd rfl eQ
 |var cells =>
  obtain⟨b',cap',nD,t',h1,h2,_⟩:=this;rw[hb]at h1;simp at h1;obtain⟨rfl,_⟩:=h1;exact(nZ.1 h2).1
 |arr sz rows =>
  obtain⟨_,_,⟨h1,_⟩|⟨b',o',cap',nD,t',h1,h2,_⟩⟩:=this
  ·rw[hb]at h1;simp at h1
  ·rw[hb]at h1;simp at h1;obtain⟨rfl,_⟩:=h1;exact(nZ.1 h2).1
 |mp ag L =>
  obtain⟨b',f',h1,h2,_⟩:=this;rw[hb]at h1;simp at h1;obtain⟨rfl,_⟩:=h1;exact(nZ.1 h2).1
def Fr.zK{σ:St}{γ:Cx}{w':World}{x0:Obj}{cap:Nat}(ob:Ob)(hw:w'.heap=γ.w.heap.push x0)(h1:w'.os=γ.w.os)(h2:w'.tape=γ.w.tape)(h3:w'.output=γ.w.output):
  Fr σ.aa γ (σ.aa++[ob]) { γ with w:=w',blk:=cM γ.blk σ.aa.length (some (γ.w.heap.size,0,cap)) } where
 lB:=h1
 tape:=h2
 output:=h3
 size:=by rw[hw];simp
 aw:=λb hb _=>by simp only[hw,Array.getElem?_push];rw[if_neg I6]
 z0:=λ_ h=>h
 z1:=λ_ h=>.inl h
 own:=by
  rintro b⟨i,o,c,⟨x,hx,eQ⟩,hb⟩;simp only[cM]at hb;split at hb
  ·simp at hb;right;omega
  ·rename_i df;have hi:i<σ.aa.length:=by have:=(aM.1 hx).1;simp at this;omega
   rw[cd hi]at hx;exact .inl ⟨i,o,c,⟨x,hx,eQ⟩,hb⟩
 len:=Jd
 ki:=by
  rintro i hi⟨x,hx,eQ⟩;have hx0:=hx;rw[cd hi]at hx;exact⟨by simp[cM,k9 hi],x,x,hx,hx0,Ob.jz eQ⟩
def Fr.push{σ:St}{γ:Cx}{w':World}{cur:Array Value}{t:TypeId}{cap:Nat}(ob:Ob)(hw:w'.heap=γ.w.heap.push (.cells cur t (0,0)))(h1:w'.os=γ.w.os)(h2:w'.tape=γ.w.tape)(h3:w'.output=γ.w.output):
  Fr σ.aa γ (σ.aa++[ob]) { γ with w:=w',blk:=cM γ.blk σ.aa.length (some (γ.w.heap.size,0,cap)) }:=Fr.zK ob hw h1 h2 h3
def bk.kill{σ:St}{γ:Cx}(h:bk σ γ)(id:Nat):bk { σ with aa:=σ.aa.set id .gone } γ:=by
 have hR:∀ v cv,az σ.aa γ.w γ.Z γ.blk v cv->az (σ.aa.set id .gone) γ.w γ.Z γ.blk v cv:=λv cv hv =>
  hv.mono (λb hb=>⟨hb,rfl⟩) (λi o ho=>by
   have hi:i<σ.aa.length:=(aM.1 ho).1;rw[bV];by_cases lF:id=i
   ·left;simp[lF,hi]
   ·rw[if_neg lF];by_cases cK:o=.gone
    ·subst cK;exact .inl ho
    ·exact .inr ⟨rfl,o,ho,Ob.jz cK⟩)
 have cp:∀ i,Live (σ.aa.set id .gone) i->Live σ.aa i:=by
  rintro i⟨o,ho,cK⟩;rw[bV]at ho;split at ho
  ·split at ho<;>simp at ho;exact absurd ho.symm cK
  ·exact⟨o,ho,cK⟩
 refine⟨λk=>hR _ _ (h.ax k),?_,λi j b o c o' c' hi hj=>h.inj i j b o c o' c' (cp i hi) (cp j hj),?_,h.gD⟩
 ·intro i o ho;rw[bV]at ho;split at ho
  ·split at ho<;>simp at ho;subst ho;trivial
  ·exact(h.ei i o ho).mono hR rfl (λ_ _ _ _=>rfl)
 ·rintro b ⟨i,o,c,hi,hb⟩;exact h.nz b ⟨i,o,c,cp i hi,hb⟩
def Fr.kill(os:List Ob)(γ:Cx)(id:Nat):Fr os γ (os.set id .gone) γ where
 lB:=rfl
 tape:=rfl
 output:=rfl
 size:=aG _
 aw:=λ_ _ _=>rfl
 z0:=λ_ h=>h
 z1:=λ_ h=>.inl h
 own:=by
  rintro b⟨i,o,c,⟨x,hx,eQ⟩,hb⟩;rw[bV]at hx;split at hx
  ·split at hx<;>simp at hx;exact absurd hx.symm eQ
  ·exact .inl ⟨i,o,c,⟨x,hx,eQ⟩,hb⟩
 len:=Jd
 ki:=by
  rintro i hi⟨x,hx,eQ⟩;have hx0:=hx;rw[bV]at hx;split at hx
  ·split at hx<;>simp at hx;exact absurd hx.symm eQ
  ·exact⟨rfl,x,x,hx,hx0,Ob.jz eQ⟩
def bk.Cj{σ:St}{γ:Cx}(h:bk σ γ){id:Nat}{ob ob':Ob}(ho:σ.aa[id]?=some ob)(hg:ob≠.gone)(qH:ob.dP ob'){b o cap:Nat}(hb:γ.blk id=some (b,o,cap)){w':World}(mI:∀ k,k≠b->w'.heap[k]?=γ.w.heap[k]?)(a6:w'.heap.size=γ.w.heap.size)(aP:∀ os',(∀ v cv,az σ.aa γ.w γ.Z γ.blk v cv->az os' w' γ.Z γ.blk v cv)->wx os' w' γ.Z γ.blk id ob'):bk { σ with aa:=σ.aa.set id ob' } { γ with w:=w' }:=by
 have cP:id<σ.aa.length:=(aM.1 ho).1;have n9:Live σ.aa id:=⟨ob,ho,hg⟩;have pP:ob'≠.gone:=by intro e;subst e;cases ob<;>simp[Ob.dP]at qH
 have hR:∀ v cv,az σ.aa γ.w γ.Z γ.blk v cv->az (σ.aa.set id ob') w' γ.Z γ.blk v cv:=λv cv hv =>
  hv.mono (λz hz=>⟨hz,mI z (λe=>h.nz b ⟨id,o,cap,n9,hb⟩ (e▸hz))⟩) (λi x hx=>by
   rw[bV];by_cases lF:id=i
   ·subst lF;rw[ho]at hx;simp at hx;subst hx;right;refine⟨rfl,ob',by simp[cP],qH⟩
   ·rw[if_neg lF];by_cases cK:x=.gone
    ·subst cK;exact .inl hx
    ·exact .inr ⟨rfl,x,hx,Ob.jz cK⟩)
 have cp:∀ i,Live (σ.aa.set id ob') i->Live σ.aa i:=by
  rintro i⟨x,hx,eQ⟩;rw[bV]at hx;split at hx
  ·rename_i e;subst e;exact n9
  ·exact⟨x,hx,eQ⟩
 refine⟨λk=>hR _ _ (h.ax k),?_,λi j b o c o' c' hi hj=>h.inj i j b o c o' c' (cp i hi) (cp j hj),?_,λz hz=>by rw[a6];exact h.gD z hz⟩
 ·intro i x hx;rw[bV]at hx;by_cases lF:id=i
  ·subst lF;rw[if_pos rfl,if_pos cP]at hx;simp at hx;subst hx;exact aP _ hR
  ·rw[if_neg lF]at hx;by_cases cK:x=.gone
   ·subst cK;trivial
   ·refine(h.ei i x hx).mono hR rfl (λz y c hz=>mI z (λe=>lF ?_));subst e;exact h.inj id i z o cap y c n9 ⟨x,hx,cK⟩ hb hz
 ·rintro z ⟨i,y,c,hi,hz⟩;exact h.nz z ⟨i,y,c,cp i hi,hz⟩
def bk.write{σ:St}{γ:Cx}(h:bk σ γ){id:Nat}{ob ob':Ob}(ho:σ.aa[id]?=some ob)(hg:ob≠.gone)(qH:ob.dP ob'){b o cap:Nat}(hb:γ.blk id=some (b,o,cap)){w':World}{cur:Array Value}{t:TypeId}(hw:w'.heap[b]?=some (.cells cur t (0,0)))(mI:∀ k,k≠b->w'.heap[k]?=γ.w.heap[k]?)(a6:w'.heap.size=γ.w.heap.size)(aP:qO σ.aa γ.w γ.Z γ.blk o cap cur ob'):bk { σ with aa:=σ.aa.set id ob' } { γ with w:=w' } :=
 h.Cj ho hg qH hb mI a6 λ_ hR=>aP.F1 hR hb hw
def Fr.write{σ:St}{γ:Cx}{id:Nat}{ob:Ob}(ob':Ob)(ho:σ.aa[id]?=some ob)(hg:ob≠.gone)(qH:ob.dP ob'){b o cap:Nat}(hb:γ.blk id=some (b,o,cap)){w':World}(mI:∀ k,k≠b->w'.heap[k]?=γ.w.heap[k]?)(a6:w'.heap.size=γ.w.heap.size)(h1:w'.os=γ.w.os)(h2:w'.tape=γ.w.tape)(h3:w'.output=γ.w.output):
  Fr σ.aa γ (σ.aa.set id ob') { γ with w:=w' } where
 lB:=h1
 tape:=h2
 output:=h3
 size:=by simp[a6]
 aw:=λz _ uE=>mI z (λe=>uE ⟨id,o,cap,⟨ob,ho,hg⟩,e▸hb⟩)
 z0:=λ_ h=>h
 z1:=λ_ h=>.inl h
 own:=by
  rintro z⟨i,y,c,⟨x,hx,eQ⟩,hz⟩;rw[bV]at hx;split at hx
  ·rename_i e;subst e;exact .inl ⟨id,y,c,⟨ob,ho,hg⟩,hz⟩
  ·exact .inl ⟨i,y,c,⟨x,hx,eQ⟩,hz⟩
 len:=Jd
 ki:=by
  rintro i hi⟨x,hx,eQ⟩;have hx0:=hx;rw[bV]at hx;split at hx
  ·rename_i e;subst e;exact⟨rfl,ob,ob',ho,by rw[bV];simp[hi],qH⟩
  ·exact⟨rfl,x,x,hx,hx0,Ob.jz eQ⟩
end Go.Am
namespace Go.Am
structure Ty where
 kind:Nat
 size:Nat
 bytes:Nat
 elem:Nat
 len:Nat
 zero:Option (List Value)
 aI:List (Nat×Nat×Nat)
def tq(P:Program)(t:TypeId):Nat:=match P.info? t with|some i=>i.size|none=>0
def ty(P:Program)(t:TypeId):Ty :=
 match P.info? t,P.underlying t with
 |some i,some d =>
  let base:Ty:={ kind:=0,size:=i.size,bytes:=i.bytes,elem:=0,len:=0,zero:=i.zero.map (·.cells.toList),aI:=[] }
  match d with
  |.slice e=>{ base with kind:=1,elem:=e }
  |.array n e=>{ base with kind:=2,elem:=e,len:=n }
  |.struct fs=>{ base with kind:=3,aI:=fs.toList.map λf=>(f.offset,f.type,tq P f.type) }
  |.string=>{ base with kind:=4 }
  |.int _=>{ base with kind:=5 }
  |.bool=>{ base with kind:=6 }
  |.pointer e=>{ base with kind:=7,elem:=e }
  |.map _ e=>{ base with kind:=8,elem:=e }
  |.func _ _ _=>{ base with kind:=9 }
  |_=>base
 |_,_=>{ kind:=99,size:=0,bytes:=0,elem:=0,len:=0,zero:=none,aI:=[] }
def Ty.isAgg(t:Ty):Bool:=t.kind==2||t.kind==3
def qT{P:Program}{t:TypeId}(h:(ty P t).kind≠99):∃i d,P.info? t=some i/\P.underlying t=some d/\(ty P t).size=i.size/\(ty P t).bytes=i.bytes/\(ty P t).zero=i.zero.map (·.cells.toList):=by
 unfold ty at h ⊢;cases hi:P.info? t with
 |none=>simp[hi]at h
 |some i =>
  cases hd:P.underlying t with
  |none=>simp[hi,hd]at h
  |some d =>
   refine⟨i,d,rfl,rfl,?_,?_,?_⟩<;>cases d<;>rfl
def qR{P:Program}{t:TypeId}(h:(ty P t).kind=1):P.underlying t=some (.slice (ty P t).elem):=by
 unfold ty at h ⊢;cases hi:P.info? t<;>cases hd:P.underlying t<;>simp[hi,hd]at h ⊢;rename_i i d;cases d<;>simp at h ⊢
def Ln{P:Program}{t:TypeId}(h:(ty P t).kind=2):P.underlying t=some (.array (ty P t).len (ty P t).elem):=by
 unfold ty at h ⊢;cases hi:P.info? t<;>cases hd:P.underlying t<;>simp[hi,hd]at h ⊢;rename_i i d;cases d<;>simp at h ⊢
def FR{P:Program}{t:TypeId}(h:(ty P t).kind=3):∃fs,P.underlying t=some (.struct fs)/\(ty P t).aI=fs.toList.map λf=>(f.offset,f.type,tq P f.type):=by
 unfold ty at h ⊢;cases hi:P.info? t<;>cases hd:P.underlying t<;>simp[hi,hd]at h ⊢;rename_i i d;cases d<;>simp at h ⊢
def XF{P:Program}{t:TypeId}(h:(ty P t).kind=6):P.underlying t=some .bool:=by
 unfold ty at h;cases hi:P.info? t<;>cases hd:P.underlying t<;>simp[hi,hd]at h ⊢;rename_i i d;cases d<;>simp at h ⊢
def dM:Value->AV
 |.agg cs=>.agg (cs.toList.map .lit)
 |v=>.lit v
def ev(σ:St):Operand->AV
 |.tmp t=>σ.env t
 |.const v=>dM v
 |.func f=>.fn f []
 |.global _=>.undef
def St.put(σ:St)(dst:Option Tmp)(v:AV):St :=
 match dst with
 |some d=>{ σ with env:=iv σ.env d v }
 |none=>σ
def b7:AV->Bool
 |.lit v=>v.oneCell'
 |.tree ..|.cq _|.ref ..|.ptr ..|.fn ..|.gm ..|.fT ..=>true
 |_=>false
def cellsOf:AV->List AV
 |.agg cs=>cs
 |v=>[v]
def setCells(cells:List AV)(c:Nat):List AV->List AV
 |[]=>cells
 |v::vs=>setCells (cells.set c v) (c+1) vs
def lj(place:Nat->Option (Nat×Nat))(cells:List AV):List (Nat×AV)->Option (List AV)
 |[]=>some cells
 | (i,v)::rest =>
  match place i with
  |none=>none
  |some (off,size)=>if(cellsOf v).length=size/\off+size<=cells.length then lj place (setCells cells off (cellsOf v)) rest else none
def lk(sz:Nat):Nat->List AV->List (List AV)
 |0,_=>[]
 |n+1,cs=>cs.take sz::lk sz n (cs.drop sz)
def rowOf(σ:St)(id r:Nat):Option (List AV) :=
 match σ.aa[id]? with
 |some (.var cells)=>if r=0 then some cells else none
 |some (.arr _ rows)=>rows[r]?
 |_=>none
def mC(σ:St)(id r:Nat)(row:List AV):St :=
 match σ.aa[id]? with
 |some (.var _)=>{ σ with aa:=σ.aa.set id (.var row) }
 |some (.arr sz rows)=>{ σ with aa:=σ.aa.set id (.arr sz (rows.set r row)) }
 |_=>σ
def ld(t:Ty)(cells:List AV)(c:Nat)(K:AV->Prop):Prop :=
 if t.isAgg then c+t.size<=cells.length/\K (.agg ((cells.drop c).take t.size))
 else match cells[c]? with
  |some v=>K v
  |none=>False
def nk:List AV->Option (List Int)
 |[]=>some []
 |.lit (.int .i64 a)::r=>(nk r).map (a::·)
 |_=>none
def uD(P:Program)(t:TypeId)(n:Nat):Prop :=
 ∀ (w:World) (as bs:List Int),as.length=n->bs.length=n ->
  (Op.equalIn 10000 t (.agg (as.map (Value.int .i64)).toArray) (.agg (bs.map (Value.int .i64)).toArray)).run P w=.ok (decide (as=bs)) w
def xZ(k:IntKind)(a b:Int):Int:=k.wrap ((BitVec.ofInt k.bits a &&& BitVec.ofInt k.bits b).toNat)
def Ly(a b:Int):Int:=IntKind.i64.wrap ((BitVec.ofInt 64 a &&& BitVec.ofInt 64 b).toNat)
def Lz(a b:Int):xZ .i64 a b=Ly a b:=by unfold xZ Ly;rfl
def fG(op:BinOp)(k:IntKind)(a b:Int)(K:Value->Prop):Prop :=
 match op with
 |.add=>(k.min<=a+b/\a+b<=k.max)/\K (.int k (a+b))
 |.sub=>(k.min<=a-b/\a-b<=k.max)/\K (.int k (a-b))
 |.mul=>(k.min<=a*b/\a*b<=k.max)/\K (.int k (a*b))
 |.quo=>(0<=a/\0<b/\a<=k.max)/\K (.int k (a/b))
 |.rem=>b≠0/\K (.int k (a.tmod b))
 |.and=>K (.int k (xZ k a b))
 |.shr=>(0<=b/\b.toNat<=k.bits)/\K (.int k (a/2^b.toNat))
 |.eql=>K (.bool (a==b))
 |.neq=>K (.bool (a != b))
 |.lss=>K (.bool (decide (a<b)))
 |.leq=>K (.bool (decide (a<=b)))
 |.gtr=>K (.bool (decide (a > b)))
 |.geq=>K (.bool (decide (a >= b)))
 |_=>False
def eZ(t:Bool):AV->AV->AV
 |.lit (.bool x),.lit (.bool y)=>.lit (.bool (bif t then x else y))
 |a,b=>if t then a else b
def mF(σ:St):AV->Option (Nat×List (List AV))
 |.tree sz rows=>some (sz,rows)
 |.ref id sz off len =>
  match σ.aa[id]? with
  |some (.arr cJ rows)=>if cJ=sz then some (sz,(rows.drop off).take len) else none
  |_=>none
 |_=>none
def oR(σ:St)(sz:Nat):AV->Option (List (List AV)×St)
 |.lit (.slice none 0 0)=>some ([],σ)
 |.ref id cJ off len =>
  match σ.aa[id]? with
  |some (.arr j5 rows)=>if j5=cJ/\cJ=sz then some ((rows.drop off).take len,{ σ with aa:=σ.aa.set id .gone }) else none
  |_=>none
 |_=>none
end Go.Am
namespace Go.Am
variable (P:Program)
def jg(l:List Int):List (List Int×AV)->Nat->Option Nat
 |[],_=>none
 |p::r,i=>if p.1=l then some i else jg l r (i+1)
def mD(l:List Int)(L:List (List Int×AV)):Option AV:=(jg l L 0).bind λi=>(L[i]?).map (·.2)
def e7(l:List Int)(v:AV)(L:List (List Int×AV)):List (List Int×AV) :=
 match jg l L 0 with
 |some i=>L.set i (l,v)
 |none=>L++[(l,v)]
def xH(l:List Int)(L:List (List Int×AV)):Nat:=(jg l L 0).getD L.length
def n5(n:Nat)(v:AV)(L:List (List Int×AV)):List (List Int×AV):=L.set n ((L.getD n ([],.undef)).1,v)
def j4(P:Program)(t:TypeId)(ag:Nat):Prop:=∃ kt et,P.underlying t=some (.map kt et)/\∀ l:List Int,l.length=jA ag ->
 (∀ e w,(Instr.checkKey e 10000 kt (kV ag l)).run P w=.ok () w)/\(∀ w,(Instr.keyThatStays (kV ag l) (kV ag l)).run P w=.ok (kV ag l) w) /\
 ∀ (f:Nat->Value) (L:List (List Int×AV)) w,(∀ p∈L,p.1.length=jA ag)->(Instr.findKey kt (kV ag l) (fI (dg ag f L)).toList).run P w=.ok ((jg l L 0).map λi=>(i,f i)) w
def zeroV(P:Program)(t:TypeId):Option Value :=
 match P.info? t with
 |some i=>i.zero
 |none=>none
def xG(P:Program)(t:TypeId):Nat :=
 match P.underlying t with
 |some (.map kt _)=>if(ty P kt).isAgg then(ty P kt).size else 0
 |_=>0
def keyOf:AV->Option (Nat×List Int)
 |.lit (.int .i64 n)=>some (0,[n])
 |.agg cs=>(nk cs).map λl=>(l.length,l)
 |_=>none
def kK(σ:St):AV->Option (Nat×Nat×List (List Int×AV))
 |.fT id =>
  match σ.aa[id]? with
  |some (.mp ag L)=>some (id,ag,L)
  |_=>none
 |_=>none
def Ff(s:ByteArray)(n:Nat):Int :=
 match s[n]? with
 |some b=>b.toNat
 |none=>0
def ta(P:Program)(t:TypeId):Bool :=
 match P.underlying t with
 |some (.interface _)=>true
 |some _=>false
 |none=>true
def cf (o:Oper) (σ:St) (K:St->Prop):Prop :=
  match o.op with
  | .move x | .assign x=>K (σ.put o.dst (ev σ x))
  | .pick c a b =>
    match ev σ c with
    | .lit (.bool t)=>K (σ.put o.dst (eZ t (ev σ a) (ev σ b)))
    | _=>False
  | .alloc e =>
    (ty P e).kind≠99 /\
    match (ty P e).zero with
    | some z=>K (({ σ with aa:=σ.aa++[.var (z.map .lit)] }:St).put o.dst (.ptr σ.aa.length 0 0))
    | none=>False
  | .box _ x=>(cellsOf (ev σ x)).all b7=true/\K (({ σ with aa:=σ.aa++[.var (cellsOf (ev σ x))] }:St).put o.dst (.ptr σ.aa.length 0 0))
  | .build t parts =>
    match (ty P t).kind,(ty P t).zero with
    | 3,some z =>
      match lj (λi=>((ty P t).aI[i]?).map λf=>(f.1,f.2.2)) (z.map .lit) (parts.toList.map λp=>(p.1,ev σ p.2)) with
      | some cs=>((parts.toList.all λp=>(cellsOf (ev σ p.2)).all b7)=true/\((ty P t).aI.all λf=>decide (0<f.2.2))=true)/\K (σ.put o.dst (.agg cs))
      | none=>False
    | 2,some z =>
      match lj (λi=>some (i * (ty P (ty P t).elem).size,(ty P (ty P t).elem).size)) (z.map .lit) (parts.toList.map λp=>(p.1,ev σ p.2)) with
      | some cs=>((parts.toList.all λp=>(cellsOf (ev σ p.2)).all b7)=true/\(ty P (ty P t).elem).kind≠99)/\K (σ.put o.dst (.agg cs))
      | none=>False
    | _,_=>False
  | .buildSlice t len parts =>
    match (ty P t).kind,(ty P (ty P t).elem).zero with
    | 1,some z =>
      match lj (λi=>some (i * (ty P (ty P t).elem).size,(ty P (ty P t).elem).size)) ((aN len).flatMap λ_=>z.map .lit) (parts.toList.map λp=>(p.1,ev σ p.2)) with
      | some cs=>((ty P (ty P t).elem).kind≠99/\0<(ty P (ty P t).elem).size/\z.length=(ty P (ty P t).elem).size/\len * (ty P (ty P t).elem).size<=16777216/\(parts.toList.all λp=>(cellsOf (ev σ p.2)).all b7)=true) /\
          K (({ σ with aa:=σ.aa++[.arr (ty P (ty P t).elem).size (lk (ty P (ty P t).elem).size len cs)] }:St).put o.dst (.ref σ.aa.length (ty P (ty P t).elem).size 0 len))
      | none=>False
    | _,_=>False
  | .load t a =>
    (ty P t).kind≠99 /\
    match ev σ a with
    | .ptr id r c =>
      match rowOf σ id r with
      | some row=>ld (ty P t) row c λv=>K (σ.put o.dst v)
      | none=>False
    | .cq cells=>ld (ty P t) cells 0 λv=>K (σ.put o.dst v)
    | _=>False
  | .store t a x =>
    (ty P t).kind≠99 /\
    match ev σ a with
    | .ptr id r c =>
      match rowOf σ id r with
      | some row=>((cellsOf (ev σ x)).length=(ty P t).size/\c+(ty P t).size<=row.length/\(cellsOf (ev σ x)).all b7=true)/\K ((mC σ id r (setCells row c (cellsOf (ev σ x)))).put o.dst .undef)
      | none=>False
    | _=>False
  | .nilCheck x =>
    match ev σ x with
    | .ptr id r c =>
      match σ.aa[id]? with
      | some .gone=>False
      | some _=>K (σ.put o.dst (.ptr id r c))
      | none=>False
    | .cq cells=>K (σ.put o.dst (.cq cells))
    | _=>False
  | .binOp op t x y _ =>
    match ev σ x,ev σ y with
    | .lit (.int k a),.lit (.int k' b)=>k=k'/\fG op k a b λv=>K (σ.put o.dst (.lit v))
    | .lit (.bool a),.lit (.bool b) =>
      (ty P t).kind=6 /\
      match op with
      | .eql=>K (σ.put o.dst (.lit (.bool (a == b))))
      | .neq=>K (σ.put o.dst (.lit (.bool (a != b))))
      | _=>False
    | .tree _ rows,.lit (.slice none 0 0) =>
      ((ty P t).kind=1/\0<rows.length) /\
      match op with
      | .eql=>K (σ.put o.dst (.lit (.bool false)))
      | .neq=>K (σ.put o.dst (.lit (.bool true)))
      | _=>False
    | .lit (.slice a _ _),.lit (.slice none 0 0) =>
      (ty P t).kind=1 /\
      match op with
      | .eql=>K (σ.put o.dst (.lit (.bool a.isNone)))
      | .neq=>K (σ.put o.dst (.lit (.bool (!a.isNone))))
      | _=>False
    | .agg cs,.agg ds =>
      match nk cs,nk ds with
      | some as,some bs =>
        (uD P t as.length/\bs.length=as.length/\P.eqGuardType P.depth t=false) /\
        match op with
        | .eql=>K (σ.put o.dst (.lit (.bool (decide (as=bs)))))
        | .neq=>K (σ.put o.dst (.lit (.bool (!decide (as=bs)))))
        | _=>False
      | _,_=>False
    | _,_=>False
  | .unOp op _ x =>
    match op,ev σ x with
    | .not,.lit (.bool b)=>K (σ.put o.dst (.lit (.bool !b)))
    | .neg,.lit (.int k a)=>(k.min<=-a/\-a<=k.max)/\K (σ.put o.dst (.lit (.int k (-a))))
    | _,_=>False
  | .makeFunc fn first captured =>
    match fn with
    | .func f=>first.size=0/\K (σ.put o.dst (.fn f (captured.toList.map (ev σ))))
    | _=>False
  | .makeSlice t l c =>
    match (ty P t).kind,(ty P (ty P t).elem).zero,ev σ l,ev σ c with
    | 1,some z,.lit (.int k n),.lit (.int k' n') =>
      ((ty P (ty P t).elem).kind≠99/\0<(ty P (ty P t).elem).size/\z.length=(ty P (ty P t).elem).size/\n'=n/\0<=n/\n<=1099511627776/\(ty P (ty P t).elem).bytes<=128/\k=k) /\
        K (({ σ with aa:=σ.aa++[.arr (ty P (ty P t).elem).size (b6 n.toNat (z.map .lit))] }:St).put o.dst (.ref σ.aa.length (ty P (ty P t).elem).size 0 n.toNat))/\k'=k'
    | _,_,_,_=>False
  | .slice t x lo hi mx =>
    (ty P t).kind=1/\(ty P (ty P t).elem).kind≠99/\mx=none /\
    match ev σ x with
    | .ref id sz off len =>
      match σ.aa[id]? with
      | some (.arr cJ rows) =>
        cJ=sz/\sz=(ty P (ty P t).elem).size /\
        match lo.map (ev σ),hi.map (ev σ) with
        | none,none=>K (σ.put o.dst (.ref id sz off len))
        | some (.lit (.int _ l)),none=>(0<=l/\l<=len/\rows.length=rows.length)/\K (σ.put o.dst (.ref id sz (off+l.toNat) (len - l.toNat)))
        | none,some (.lit (.int _ h))=>(0<=h/\h<=len)/\K (σ.put o.dst (.ref id sz off h.toNat))
        | some (.lit (.int _ l)),some (.lit (.int _ h))=>(0<=l/\l<=h/\h<=len)/\K (σ.put o.dst (.ref id sz (off+l.toNat) (h.toNat - l.toNat)))
        | _,_=>False
      | _=>False
    | .tree sz rows =>
        (rows≠[]->sz=(ty P (ty P t).elem).size) /\
        match lo.map (ev σ),hi.map (ev σ) with
        | none,none=>K (σ.put o.dst (.tree sz rows))
        | some (.lit (.int _ l)),none=>(0<=l/\l<=rows.length)/\K (σ.put o.dst (.tree sz (rows.drop l.toNat)))
        | none,some (.lit (.int _ h))=>(0<=h/\h<=rows.length)/\K (σ.put o.dst (.tree sz (rows.take h.toNat)))
        | some (.lit (.int _ l)),some (.lit (.int _ h))=>(0<=l/\l<=h/\h<=rows.length)/\K (σ.put o.dst (.tree sz ((rows.take h.toNat).drop l.toNat)))
        | _,_=>False
    | _=>False
  | .fieldAddr s x f =>
    match (ty P s).kind,(ty P s).aI[f]? with
    | 3,some (off,_,size) =>
      0<size /\
      match ev σ x with
      | .ptr id r c =>
        match σ.aa[id]? with
        | some .gone=>False
        | some _=>K (σ.put o.dst (.ptr id r (c+off)))
        | none=>False
      | .cq cells=>K (σ.put o.dst (.cq (cells.drop off)))
      | _=>False
    | _,_=>False
  | .field s x f =>
    match (ty P s).kind,(ty P s).aI[f]? with
    | 3,some (off,t,size) =>
      (ty P t).kind≠99/\size=(ty P t).size /\
      match ev σ x with
      | .agg cs=>if (ty P t).isAgg then off+size<=cs.length/\K (σ.put o.dst (.agg ((cs.drop off).take size))) else
          match cs[off]? with
          | some v=>K (σ.put o.dst v)
          | none=>False
      | _=>False
    | _,_=>False
  | .indexAddr t x i =>
    match (ty P t).kind,ev σ x,ev σ i with
    | 1,.ref id sz off len,.lit (.int _ n) =>
      match σ.aa[id]? with
      | some (.arr cJ _)=>(cJ=sz/\sz=(ty P (ty P t).elem).size/\(ty P (ty P t).elem).kind≠99/\0<=n/\n<len)/\K (σ.put o.dst (.ptr id (off+n.toNat) 0))
      | _=>False
    | 1,.tree sz rows,.lit (.int _ n)=>(sz=(ty P (ty P t).elem).size/\(ty P (ty P t).elem).kind≠99/\0<=n/\n<rows.length)/\K (σ.put o.dst (.cq (rows.getD n.toNat [])))
    | 2,.ptr id r c,.lit (.int _ n) =>
      match σ.aa[id]? with
      | some .gone=>False
      | some _=>((ty P (ty P t).elem).kind≠99/\0<=n/\n<(ty P t).len)/\K (σ.put o.dst (.ptr id r (c+n.toNat * (ty P (ty P t).elem).size)))
      | none=>False
    | _,_,_=>False
  | .makeMap t r=>(r=none/\(ty P t).kind=8)/\K (({ σ with aa:=σ.aa++[.mp (xG P t) []] }:St).put o.dst (.fT σ.aa.length))
  | .lookup t x i ok =>
    match keyOf (ev σ i),kK σ (ev σ x),zeroV P (ty P t).elem with
    | some (ag,l),some (_,g7,L),some z=>(j4 P t ag/\g7=ag/\l.length=jA ag/\(ty P t).kind=8/\ok=false)/\K (σ.put o.dst ((mD l L).getD (.lit z)))
    | _,_,_=>False
  | .mapUpdate t m k x =>
    match keyOf (ev σ k),kK σ (ev σ m) with
    | some (ag,l),some (id,g7,L)=>(j4 P t ag/\g7=ag/\l.length=jA ag)/\K (({ σ with aa:=σ.aa.set id (.mp ag (e7 l (ev σ x) L)) }:St).put o.dst .undef)
    | _,_=>False
  | .mapEntry t m k =>
    match keyOf (ev σ k),kK σ (ev σ m),zeroV P (ty P t).elem with
    | some (ag,l),some (id,g7,L),some z=>(j4 P t ag/\g7=ag/\l.length=jA ag/\(ty P t).kind=8) /\
      K (({ σ with aa:=σ.aa.set id (.mp ag (e7 l ((mD l L).getD (.lit z)) L)) }:St).put o.dst (.bO [(mD l L).getD (.lit z),.lit (.int .i64 (xH l L:Nat))]))
    | _,_,_=>False
  | .entryStore _ m s x =>
    match ev σ s,kK σ (ev σ m) with
    | .lit (.int .i64 n),some (id,ag,L)=>(0<=n/\n<L.length)/\K (({ σ with aa:=σ.aa.set id (.mp ag (n5 n.toNat (ev σ x) L)) }:St).put o.dst .undef)
    | _,_=>False
  | .index t x i =>
    match ev σ x,ev σ i with
    | .lit (.string s),.lit (.int _ n)=>(P.underlying t=some .string/\0<=n/\n<s.size)/\K (σ.put o.dst (.lit (.int .u8 (Ff s n.toNat))))
    | _,_=>False
  | .makeInterface t x=>ta P t=false/\K (σ.put o.dst (.gm t (ev σ x)))
  | .typeAssert x _ asserted ok =>
    match ev σ x with
    | .gm t v=>(ta P asserted=false/\t=asserted/\ok=false)/\K (σ.put o.dst v)
    | _=>False
  | .extract x i =>
    match ev σ x with
    | .bO vs =>
      match vs[i]? with
      | some v=>K (σ.put o.dst v)
      | none=>False
    | _=>False
  | .call { callee:=.builtin .len,args,argTypes } =>
    match args.toList,argTypes.toList with
    | [x],[t] =>
      match ev σ x with
      | .ref id sz _ len =>
        (ty P t).kind=1 /\
        match σ.aa[id]? with
        | some (.arr cJ _)=>cJ=sz/\K (σ.put o.dst (.lit (.int .i64 len)))
        | _=>False
      | .tree _ rows=>(ty P t).kind=1/\K (σ.put o.dst (.lit (.int .i64 rows.length)))
      | .lit (.slice none 0 0)=>(ty P t).kind=1/\K (σ.put o.dst (.lit (.int .i64 0)))
      | .fT id =>
        (ty P t).kind=8 /\
        match σ.aa[id]? with
        | some (.mp _ L)=>K (σ.put o.dst (.lit (.int .i64 L.length)))
        | _=>False
      | _=>False
    | _,_=>False
  | .call { callee:=.builtin .append,args,argTypes } =>
    match args.toList,argTypes.toList with
    | [s,x],[t,t'] =>
      match (ty P t).kind,(ty P (ty P t).elem).zero,oR σ (ty P (ty P t).elem).size (ev σ s),mF σ (ev σ x) with
      | 1,some z,some (pre,σ1),some (sz,src) =>
        (t'=t/\(ty P (ty P t).elem).kind≠99/\sz=(ty P (ty P t).elem).size/\0<sz/\z.length=sz/\pre.length+src.length<=549755813888/\(ty P (ty P t).elem).bytes<=128/\(src.all λrow=>row.all b7)=true) /\
          K (({ σ1 with aa:=σ1.aa++[.arr sz (pre++src)] }:St).put o.dst (.ref σ1.aa.length sz 0 (pre.length+src.length)))
      | _,_,_,_=>False
    | _,_=>False
  | .call { callee:=.builtin .min,args,argTypes:=_ } =>
    match args.toList with
    | [x,y] =>
      match ev σ x,ev σ y with
      | .lit (.int k a),.lit (.int k' b)=>k=k'/\K (σ.put o.dst (.lit (.int k (min a b))))
      | _,_=>False
    | _=>False
  | .call { callee:=.builtin .max,args,argTypes:=_ } =>
    match args.toList with
    | [x,y] =>
      match ev σ x,ev σ y with
      | .lit (.int k a),.lit (.int k' b)=>k=k'/\K (σ.put o.dst (.lit (.int k (max a b))))
      | _,_=>False
    | _=>False
  | .call { callee:=.builtin .copy,args,argTypes } =>
    match args.toList,argTypes.toList with
    | [s,x],[t,_] =>
      match ev σ s,mF σ (ev σ x) with
      | .ref id sz off len,some (cJ,src) =>
        match σ.aa[id]? with
        | some (.arr j5 rows) =>
          ((ty P t).kind=1/\(ty P (ty P t).elem).kind≠99/\cJ=sz/\j5=sz/\sz=(ty P (ty P t).elem).size/\0<sz/\(src.all λrow=>row.all b7)=true) /\
            K (({ σ with aa:=σ.aa.set id (.arr sz (rows.take off++src.take (min src.length len)++rows.drop (off+min src.length len))) }:St).put o.dst (.lit (.int .i64 (min src.length len:Nat))))
        | _=>False
      | _,_=>False
    | _,_=>False
  | .call { callee:=.builtin .clear,args,argTypes } =>
    match args.toList,argTypes.toList with
    | [s],[t] =>
      match ev σ s,(ty P (ty P t).elem).zero with
      | .ref id sz off len,some z =>
        match σ.aa[id]? with
        | some (.arr cJ rows) =>
          ((ty P t).kind=1/\(ty P (ty P t).elem).kind≠99/\cJ=sz/\z.length=sz/\0<sz/\(z.all λu=>u.oneCell')=true) /\
            K (({ σ with aa:=σ.aa.set id (.arr sz (rows.take off++b6 len (z.map AV.lit)++rows.drop (off+len))) }:St).put o.dst (.lit (.tuple #[])))
        | _=>False
      | _,_=>False
    | _,_=>False
  | .convert s d x =>
    match P.underlying d,ev σ x with
    | some (.int k),.lit (.int _ n)=>(P.underlying s).isSome=true/\K (σ.put o.dst (.lit (.int k (k.wrap n))))
    | _,_=>False
  | _=>False
end Go.Am
namespace Go.Am
variable {P:Program}
def wg(o:Oper)(σ:St)(γ:Cx)(a:Act)(K:St->Prop)(r:Result Next):Prop :=
 ∃ n x w' σ' aD,r=.ok n w'/\(n=.value x\/(n=.skip/\x=Go.undef))/\K σ'/\bk σ' aD/\Fr σ.aa γ σ'.aa aD/\aD.w=w'/\aD.tmps=(a.put o.dst x).tmps
def az.lit{os:List Ob}{w:World}{Z:Nat->Prop}{blk:gn}(v:Value):az os w Z blk (.lit v) v:=.bS _ _ (.lit v)
def az.cH{os:List Ob}{w:World}{Z:Nat->Prop}{blk:gn}{v cv:Value}(h:az os w Z blk (.lit v) cv):cv=v:=by
 cases h with
 |bS _ _ h=>cases h;rfl
def az.v8{os:List Ob}{w:World}{Z:Nat->Prop}{blk:gn}{sz:Nat}{rows:List (List AV)}{cv:Value}(h:az os w Z blk (.tree sz rows) cv):gj w Z (.tree sz rows) cv:=by
 cases h with
 |bS _ _ h=>exact h
def az.dM{os:List Ob}{w:World}{Z:Nat->Prop}{blk:gn}(v:Value):az os w Z blk (dM v) v:=by
 unfold Am.dM;split
 ·rename_i cs;refine .agg _ _ Jd (λj x hx=>?_);simp only[List.getElem?_map,Array.getElem?_toList]at hx;cases hj:cs[j]? with
  |none=>simp[hj]at hx
  |some y =>
   simp[hj]at hx;subst hx;simp[hj];exact .lit y
 ·exact .lit v
def sc{σ:St}{γ:Cx}(h:bk σ γ){a:Act}(ha:γ.tmps=a.tmps)(x:Operand):az σ.aa γ.w γ.Z γ.blk (ev σ x) (a.eval x):=by
 cases x with
 |tmp t=>have:=h.ax t;rw[ha]at this;exact this
 |const v=>exact .dM v
 |global g=>exact .undef _
 |func f=>exact .fn f [] #[] rfl (λj x hx=>by simp at hx)
def Cp{os:List Ob}{w:World}{Z:Nat->Prop}{blk:gn}{v:AV}{cv:Value}(h:az os w Z blk v cv)(hs:b7 v=true):cv.oneCell'=true:=by
 cases h with
 |undef cv=>simp[b7]at hs
 |bS v cv h=>cases h<;>first|rfl|(simpa [b7] using hs)
 |cq=>rfl
 |j6 id sz off len cv h h1=>exact h1
 |lC id r c cv h h1=>exact h1
 |ref=>rfl
 |ll=>rfl
 |lD=>rfl
 |l4=>rfl
 |mG=>rfl
 |agg=>simp[b7]at hs
 |bO=>simp[b7]at hs
 |fn=>rfl
 |gm=>rfl
 |fT=>rfl
 |oS id cv h h1=>exact h1
def pH{σ:St}{γ:Cx}(h:bk σ γ){a:Act}(ha:γ.tmps=a.tmps){dst:Option Tmp}(hd:∀ d,dst=some d->d<a.tmps.size){v:AV}{cv:Value}(hv:az σ.aa γ.w γ.Z γ.blk v cv):bk (σ.put dst v) { γ with tmps:=(a.put dst cv).tmps }:=by
 cases dst with
 |none =>
  have:({ γ with tmps:=(a.put none cv).tmps }:Cx)=γ:=by cases γ;simp_all [Act.put]
  rw[this];exact h
 |some d =>
  have:=h.put d (by rw[ha];exact hd d rfl) hv;rw[ha]at this;exact this
def pI(σ:St)(dst:Option Tmp)(v:AV):(σ.put dst v).aa=σ.aa:=by cases dst<;>rfl
def c9{o:Oper}{σ:St}{γ:Cx}{a:Act}{K:St->Prop}(h:bk σ γ)(ha:γ.tmps=a.tmps)(hd:∀ d,o.dst=some d->d<a.tmps.size){v:AV}{cv:Value}(hv:az σ.aa γ.w γ.Z γ.blk v cv)(hK:K (σ.put o.dst v)){r:Result Next}(hr:r=.ok (.value cv) γ.w):wg o σ γ a K r :=
 ⟨.value cv,cv,γ.w,σ.put o.dst v,{ γ with tmps:=(a.put o.dst cv).tmps },hr,.inl rfl,hK,pH h ha hd hv,by rw[pI];exact(Fr.refl _ _).put _,rfl,rfl⟩
def xN{o:Oper}{σ σ1:St}{γ γ1:Cx}{a:Act}{K:St->Prop}(hf:Fr σ.aa γ σ1.aa γ1)(h:bk σ1 γ1)(ha:γ1.tmps=a.tmps)(hd:∀ d,o.dst=some d->d<a.tmps.size){v:AV}{cv:Value}(hv:az σ1.aa γ1.w γ1.Z γ1.blk v cv)(hK:K (σ1.put o.dst v)){r:Result Next}(hr:r=.ok (.value cv) γ1.w):wg o σ γ a K r :=
 ⟨.value cv,cv,γ1.w,σ1.put o.dst v,{ γ1 with tmps:=(a.put o.dst cv).tmps },hr,.inl rfl,hK,pH h ha hd hv,by rw[pI];exact hf.put _,rfl,rfl⟩
def FN{o:Oper}{σ σ1:St}{γ γ1:Cx}{a:Act}{K:St->Prop}(hf:Fr σ.aa γ σ1.aa γ1)(h:bk σ1 γ1)(ha:γ1.tmps=a.tmps)(hd:∀ d,o.dst=some d->d<a.tmps.size)(hK:K (σ1.put o.dst .undef)){r:Result Next}(hr:r=.ok .skip γ1.w):wg o σ γ a K r :=
 ⟨.skip,Go.undef,γ1.w,σ1.put o.dst .undef,{ γ1 with tmps:=(a.put o.dst Go.undef).tmps },hr,.inr ⟨rfl,rfl⟩,hK,pH h ha hd (.undef _),by rw[pI];exact hf.put _,rfl,rfl⟩
def uH{k:IntKind}{n:Int}(h:k.min<=n/\n<=k.max):k.wrap n=n:=by
 cases k<;>simp[IntKind.min,IntKind.max,IntKind.signed,IntKind.bits]at h<;>simp[IntKind.wrap,IntKind.signed,IntKind.bits]<;>omega
def XE{op:BinOp}{k:IntKind}{x y:Int}{K:Value->Prop}(h:fG op k x y K)(t:TypeId)(w:World):
  ∃ v,(binOp op t (.int k x) (.int k y)).run P w=.ok v w/\K v:=by
 cases op<;>simp only[fG]at h
 case add=>exact⟨_,by simp[binOp,Op.intArith,uH h.1],h.2⟩
 case sub=>exact⟨_,by simp[binOp,Op.intArith,uH h.1],h.2⟩
 case mul=>exact⟨_,by simp[binOp,Op.intArith,uH h.1],h.2⟩
 case quo =>
  refine⟨_,?_,h.2⟩;obtain⟨h0,hb,hm⟩:=h.1;have hq:x.tdiv y=x/y:=Int.tdiv_eq_ediv_of_nonneg h0;have hle:x/y<=x:=Int.ediv_le_self _ h0;have lE:0<=x/y:=Int.ediv_nonneg h0 I6;have hw:k.wrap (x/y)=x/y:=uH ⟨by cases k<;>simp[IntKind.min,IntKind.signed,IntKind.bits]<;>omega,I6⟩;have df:¬ y=0:=I6;simp[binOp,Op.intDiv,df,hq,hw]
 case rem=>exact⟨_,by simp[binOp,Op.intDiv,h.1],h.2⟩
 case and =>
  exact⟨_,by simp[binOp,Op.intBits,xZ],h⟩
 case shr =>
  refine⟨_,?_,h.2⟩;obtain⟨h0,h1⟩:=h.1;have:¬ y<0:=I6;have e:(2:Int)^y.toNat=((2^y.toNat:Nat):Int):=Jd;simp[binOp,Op.shift,this,Nat.min_eq_left h1];exact Int.fdiv_eq_ediv_of_nonneg _ (by rw[e];exact Int.natCast_nonneg _)
 case eql=>exact⟨_,by simp[binOp,Op.intCmp],h⟩
 case neq=>exact⟨_,by simp[binOp,Op.intCmp],h⟩
 case lss=>exact⟨_,by simp[binOp,Op.intCmp],h⟩
 case leq=>exact⟨_,by simp[binOp,Op.intCmp],h⟩
 case gtr=>exact⟨_,by simp[binOp,Op.intCmp],h⟩
 case geq=>exact⟨_,by simp[binOp,Op.intCmp],h⟩
def LA:∀ {cs:List AV} {as:List Int},nk cs=some as->cs=as.map λa=>aa3 a
 |[],as,h=>by simp[nk]at h;subst h;rfl
 |c::cs,as,h=>by
  unfold nk at h;split at h
  ·rename_i e;simp at e
  ·rename_i a r e;simp only[List.cons.injEq]at e;obtain⟨rfl,rfl⟩:=e;simp only[Option.map_eq_some_iff]at h;obtain⟨as',h,rfl⟩:=h;rw[LA h];rfl
  ·simp at h
def FC{os:List Ob}{w:World}{Z:Nat->Prop}{blk:gn}{cs:List AV}{as:List Int}{cv:Value}(h:az os w Z blk (.agg cs) cv)(hi:nk cs=some as):cv=.agg (as.map (Value.int .i64)).toArray:=by
 have:=LA hi;subst this;cases h with
 |bS _ _ h=>cases h
 |agg _ a7 hs h =>
  congr 1;refine Array.ext (by simpa using hs) (λj h1 h2=>?_);have hj:j<as.length:=by simpa using h2
  have:=(h j (aa3 as[j]) (by simp[hj])).cH;rw[eN,Array.getElem?_eq_getElem h1]at this;simpa using this
end Go.Am
namespace Go.Am
variable {P:Program}
def FT{t:TypeId}(h:(ty P t).kind≠99)(w:World):(isAgg t).run P w=.ok (ty P t).isAgg w:=by
 obtain⟨i,d,hi,hd,_⟩:=qT h;simp only[isAgg,Sem.run_bind,run_underlying hd,Result.andThen_ok];have:ty P t=ty P t:=rfl;cases d<;>simp[ty,hi,hd,Ty.isAgg]
def run_sizeOf{t:TypeId}(h:(ty P t).kind≠99)(w:World):(sizeOf t).run P w=.ok (ty P t).size w:=by
 obtain⟨i,d,hi,hd,hs,_⟩:=qT h;simp[sizeOf,typeInfo,hi,hs]
def Lk{t:TypeId}{z:List Value}(h:(ty P t).kind≠99)(hz:(ty P t).zero=some z)(w:World):∃v,(zeroValue t).run P w=.ok v w/\v.cells=z.toArray:=by
 obtain⟨i,d,hi,hd,_,_,h3⟩:=qT h;rw[h3]at hz;cases hv:i.zero with
 |none=>simp[hv]at hz
 |some v =>
  simp[hv]at hz;refine⟨v,by simp[zeroValue,typeInfo,hi,hv],?_⟩;rw[<- hz]
def B9{σ:St}{γ:Cx}(h:bk σ γ){id r c:Nat}{cv:Value}{row:List AV}(hv:az σ.aa γ.w γ.Z γ.blk (.ptr id r c) cv)(aZ:rowOf σ id r=some row):
  ∃ b base cap cur t o,cv=.pointer (some ⟨b,base+c,none⟩)/\γ.blk id=some (b,o,cap)/\γ.w.heap[b]?=some (.cells cur t (0,0))/\base+row.length<=cur.size /\
   (∀ j v,row[j]?=some v->az σ.aa γ.w γ.Z γ.blk v (cur.getD (base+j) Go.undef))/\Live σ.aa id /\
   (∀ wy nD,wy.length=row.length->nD.size=cur.size->(∀ j v,wy[j]?=some v->az σ.aa γ.w γ.Z γ.blk v (nD.getD (base+j) Go.undef))->(∀ k,(k<base\/base+row.length<=k)->nD.getD k Go.undef=cur.getD k Go.undef) ->
    ∃ ob ob',σ.aa[id]?=some ob/\ob≠.gone/\ob.dP ob'/\(mC σ id r wy) = { σ with aa:=σ.aa.set id ob' }/\qO σ.aa γ.w γ.Z γ.blk o cap nD ob'):=by
 unfold rowOf at aZ;cases ho:σ.aa[id]? with
 |none=>simp[ho]at aZ
 |some ob =>
  have aP:=h.ei id ob ho;cases ob with
  |gone=>simp[ho]at aZ
  |mp ag L=>simp[ho]at aZ
  |var cells =>
   simp only[ho]at aZ;split at aZ
   ·rename_i zW;subst zW;simp at aZ;subst aZ;obtain⟨b,cap,cur,t,h1,h2,h3,h4⟩:=aP;have a9:cv=.pointer (some ⟨b,c,none⟩):=by
     cases hv with
     |bS _ _ h=>cases h
     |lC _ _ _ _ h=>rw[ho]at h;simp at h
     |l4 _ _ b' cap' cells' h hb=>rw[h1]at hb;simp at hb;simp[hb.1]
     |mG _ _ _ sz b' o' cap' rows h hb=>rw[ho]at h;simp at h
    refine⟨b,0,cap,cur,t,0,by simpa using a9,h1,h2,I6,λj v hj=>by simpa using h4 j v hj,⟨_,ho,Jd⟩,?_⟩;intro wy nD hl hs kM _;refine⟨.var cells,.var wy,rfl,Jd,by simp[Ob.dP,hl],by simp[mC,ho],rfl,I6,λc v hc=>by simpa using kM c v hc⟩
   ·simp at aZ
  |arr sz rows =>
   simp only[ho]at aZ;obtain⟨a6,cD,aP⟩:=aP;have aeJ:row.length=sz:=cD row (gf aZ);have X8:r<rows.length:=(aM.1 aZ).1;rcases aP with⟨_,he⟩|⟨b,o,cap,cur,t,h1,h2,h3,h4,h5,h6⟩
   ·subst he;simp at aZ
   ·have a9:cv=.pointer (some ⟨b,o+(r*sz+c),none⟩):=by
     cases hv with
     |bS _ _ h=>cases h
     |lC _ _ _ _ h=>rw[ho]at h;simp at h
     |l4 _ _ b' cap' cells' h hb=>rw[ho]at h;simp at h
     |mG _ _ _ cJ b' o' cap' fE h hb=>rw[ho]at h;simp at h;rw[h1]at hb;simp at hb;simp[hb.1,hb.2.1,h.1]
    have hmul:r*sz+sz<=cap*sz:=by
     have:(r+1)*sz<=cap*sz:=lW _ I6;rw[eX]at this;omega
    refine⟨b,o+r*sz,cap,cur,t,o,by rw[a9];simp[ui],h1,h2,I6,?_,⟨_,ho,Jd⟩,?_⟩
    ·intro j v hj;have:=h6 r j v (by simp[cellAt,aZ,hj]);simpa [ui] using this
    ·intro wy nD hl hs kM F2;refine⟨.arr sz rows,.arr sz (rows.set r wy),rfl,Jd,by simp[Ob.dP],by simp[mC,ho],a6,?_,I6,by simp[h4],h5,?_⟩
     ·intro x hx;rcases List.mem_or_eq_of_mem_set hx with hx|rfl
      ·exact cD x hx
      ·omega
     ·intro r' c' v hc;by_cases cm:r=r'
      ·subst cm;simp only[cellAt,bV,if_true,X8]at hc;simp at hc;have:=kM c' v hc;simpa [ui] using this
      ·simp only[cellAt,bV,if_neg cm]at hc;have hold:=h6 r' c' v hc;have jZ:c'<sz:=by
        simp only[vD]at hc;obtain⟨x,hx,qU⟩:=hc;have:=cD x (gf hx);have:=(aM.1 qU).1;omega
       rw[F2 _ ?_]
       ·exact hold
       ·rcases Nat.lt_or_gt_of_ne cm with bq|wz
        ·right;have:(r+1)*sz<=r'*sz:=lW _ I6;rw[eX]at this;omega
        ·left;have:(r'+1)*sz<=r*sz:=lW _ I6;rw[eX]at this;omega
def Addr.pS(b o n:Nat):(⟨b,o,none⟩:Addr).add n=⟨b,o+n,none⟩:=by
 unfold Go.Addr.add;split<;>simp_all
def xJ{w:World}{b j:Nat}{cur:Array Value}{t:TypeId}{fr:Nat×Nat}(h:w.heap[b]?=some (.cells cur t fr))(hj:j<cur.size):w.cell? ⟨b,j,none⟩=some (cur.getD j Go.undef):=by
 simp[World.cell?,h,hj,eN]
def Cv{w:World}{t:TypeId}(hk:(ty P t).kind≠99)(b o:Nat)(f:Nat->Value)(hc:∀ j,j<(if(ty P t).isAgg then(ty P t).size else 1)->w.cell? ⟨b,o+j,none⟩=some (f j)):
  (loadVar t ⟨b,o,none⟩).run P w=.ok (if(ty P t).isAgg then .agg ((aN (ty P t).size).map f).toArray else f 0) w:=by
 simp only[loadVar,Sem.run_bind,FT hk,Result.andThen_ok];by_cases ha:(ty P t).isAgg=true
 ·simp only[ha,if_true,Sem.run_bind,run_sizeOf hk,Result.andThen_ok];rw[run_loadCells w ⟨b,o,none⟩ _ f (λj hj=>by rw[Addr.pS];exact hc j (by simpa [ha] using hj))];rfl
 ·have nB:=hc 0 (by simp[ha]);simp only[jb]at nB;simp[ha,nB]
end Go.Am
namespace Go.Am
variable {P:Program}
def FL(cs:List AV):∀ (row:List AV) (c:Nat),(setCells row c cs).length=row.length:=by
 induction cs with
 |nil=>intro row c;rfl
 |cons v vs ih=>intro row c;simp[setCells,ih]
def Lv(cs:List AV):∀ (row:List AV) (c:Nat),c+cs.length<=row.length->∀ j,(setCells row c cs)[j]?=if c<=j/\j<c+cs.length then cs[j-c]? else row[j]?:=by
 induction cs with
 |nil=>intro row c _ j;simp[setCells];intro h1 h2;omega
 |cons v vs ih =>
  intro row c hl j;simp only[dz]at hl;simp only[setCells,dz];rw[ih (row.set c v) (c+1) aaZ j];by_cases h1:c+1<=j/\j<c+1+vs.length
  ·rw[if_pos h1,if_pos I6];have:j-c=(j-(c+1))+1:=I6;rw[this];simp
  ·rw[if_neg h1];by_cases h2:j=c
   ·subst h2;rw[if_pos I6];simp[show j<row.length by omega]
   ·rw[if_neg I6,List.getElem?_set_ne (Ne.symm h2)]
def FG{os:List Ob}{w:World}{Z:Nat->Prop}{blk:gn}{v:AV}{cv:Value}(h:az os w Z blk v cv)(hs:(cellsOf v).all b7=true):
  cv.cells.size=(cellsOf v).length/\(∀ j x,(cellsOf v)[j]?=some x->az os w Z blk x (cv.cells.getD j Go.undef))/\∀ c∈cv.cells,c.oneCell'=true:=by
 by_cases iR :∃cs,v=.agg cs
 ·obtain⟨cs,rfl⟩:=iR;simp only[cellsOf]at hs ⊢;cases h with
  |bS _ _ h=>cases h
  |agg _ a7 a6 kM =>
   refine⟨a6,kM,?_⟩;intro c hc;simp only[Value.cells]at hc;obtain⟨j,hj,rfl⟩:=Array.mem_iff_getElem.1 hc;have hx:cs[j]?=some cs[j]:=by simp[<- a6,hj]
   have:=kM j _ hx;have hg:a7.getD j Go.undef=a7[j]:=by simp[eN,hj]
   rw[hg]at this;exact Cp this (by rw[List.all_eq_true]at hs;exact hs _ (gf hx))
 ·have og:cellsOf v=[v]:=by
   unfold cellsOf;split
   ·exact absurd ⟨_,rfl⟩ iR
   ·rfl
  rw[og]at hs ⊢;simp at hs;have ho:=Cp h hs;have bb:cv.cells = #[cv]:=by cases cv<;>first|rfl|simp[Value.oneCell']at ho
  rw[bb];refine⟨rfl,?_,by simp[ho]⟩;intro j x hx;cases j with
  |zero=>simp at hx;subst hx;simpa using h
  |succ j=>simp at hx
section
variable {o:Oper} {σ:St} {γ:Cx} {a:Act} {K:St->Prop}
def Fq(hs:bk σ γ){t:TypeId}(hk:(ty P t).kind≠99){id r c:Nat}{cv:Value}(hv:az σ.aa γ.w γ.Z γ.blk (.ptr id r c) cv){row:List AV}(aZ:rowOf σ id r=some row){K:AV->Prop}(h:ld (ty P t) row c K):
  ∃ v ny,(Instr.loadAt t cv).run P γ.w=.ok ny γ.w/\az σ.aa γ.w γ.Z γ.blk v ny/\K v:=by
 obtain⟨b,base,cap,cur,tt,o,rfl,hb,jC,a6,kM,_,_⟩:=B9 hs hv aZ;unfold ld at h;simp only[Instr.loadAt,Instr.sureAddr,Sem.run_bind,Sem.run_pure,Result.andThen_ok];by_cases iR:(ty P t).isAgg=true
 ·rw[if_pos iR]at h;refine⟨_,_,Cv hk b (base+c) (λj=>cur.getD (base+c+j) Go.undef) ?_,?_,h.2⟩
  ·intro j hj;rw[if_pos iR]at hj;exact xJ jC I6
  ·rw[if_pos iR];refine .agg _ _ aaZ (λj x hx=>?_);have hj:j<(ty P t).size:=by have:=(aM.1 hx).1;simp at this;omega
   rw[rN,if_pos hj,mY]at hx;have:=kM _ _ hx;simp[eN,hj];simpa [ui,eN] using this
 ·rw[if_neg iR]at h;cases hc:row[c]? with
  |none=>simp[hc]at h
  |some v =>
   simp only[hc]at h;have cy:=(aM.1 hc).1;refine⟨v,_,Cv hk b (base+c) (λj=>cur.getD (base+c+j) Go.undef) ?_,?_,h⟩
   ·intro j hj;rw[if_neg iR]at hj;exact xJ jC I6
   ·rw[if_neg iR];exact kM _ _ hc
def XC(_hs:bk σ γ){t:TypeId}(hk:(ty P t).kind≠99){cells:List AV}{cv:Value}(hv:az σ.aa γ.w γ.Z γ.blk (.cq cells) cv){K:AV->Prop}(h:ld (ty P t) cells 0 K):
  ∃ v ny,(Instr.loadAt t cv).run P γ.w=.ok ny γ.w/\az σ.aa γ.w γ.Z γ.blk v ny/\K v:=by
 cases hv with
 |bS _ _ h=>cases h
 |cq _ b o f hz hc ht =>
 unfold ld at h;simp only[Instr.loadAt,Instr.sureAddr,Sem.run_bind,Sem.run_pure,Result.andThen_ok];by_cases iR:(ty P t).isAgg=true
 ·rw[if_pos iR]at h;have hlen:(ty P t).size<=cells.length:=I6;refine⟨_,_,Cv hk b o f ?_,?_,h.2⟩
  ·intro j hj;rw[if_pos iR]at hj;exact hc j cells[j] Jd
  ·rw[if_pos iR];refine .agg _ _ aaZ (λj x hx=>?_);have hj:j<(ty P t).size:=by have:=(aM.1 hx).1;simp at this;omega
   rw[rN,if_pos hj,mY]at hx;simp at hx;simp[eN,hj];exact .bS _ _ (ht j x hx)
 ·rw[if_neg iR]at h;cases bb:cells[0]? with
  |none=>simp[bb]at h
  |some v =>
   simp only[bb]at h;refine⟨v,_,Cv hk b o f ?_,?_,h⟩
   ·intro j hj;rw[if_neg iR]at hj;have:j=0:=I6;subst this;exact hc 0 v bb
   ·rw[if_neg iR];exact .bS _ _ (ht 0 v bb)
def zT(cur:Array Value)(p:Nat)(vs:List Value)(hp:p+vs.length<=cur.size)(k:Nat):
  ((cur.toList.take p++vs++cur.toList.drop (p+vs.length)).toArray).getD k Go.undef=if p<=k/\k<p+vs.length then vs.getD (k-p) Go.undef else cur.getD k Go.undef:=by
 simp only[eN,List.getElem?_toArray,aA];by_cases h1:k<p
 ·rw[if_neg I6,List.append_assoc,cd aaZ,rN,if_pos h1];simp
 ·by_cases h2:k<p+vs.length
  ·rw[if_pos I6,cd aaZ,eu aaZ];simp;congr 3;omega
  ·rw[if_neg I6,eu aaZ];simp;congr 3;omega
def setRow_size(w:World)(g:Nat)(cs:Array Value):(w.setRow g cs).heap.size=w.heap.size:=by simp[World.setRow]
def XD(hs:bk σ γ){t:TypeId}(hk:(ty P t).kind≠99){id r c:Nat}{cv xv:Value}(hv:az σ.aa γ.w γ.Z γ.blk (.ptr id r c) cv){row:List AV}(aZ:rowOf σ id r=some row){v:AV}(hx:az σ.aa γ.w γ.Z γ.blk v xv)(h:(cellsOf v).length=(ty P t).size/\c+(ty P t).size<=row.length/\(cellsOf v).all b7=true):
  ∃ w',(Instr.storeAt t cv xv).run P γ.w=.ok () w'/\bk (mC σ id r (setCells row c (cellsOf v))) { γ with w:=w' }/\Fr σ.aa γ (mC σ id r (setCells row c (cellsOf v))).aa { γ with w:=w' }:=by
 obtain⟨b,base,cap,cur,tt,o,rfl,hb,jC,a6,kM,n9,x5⟩:=B9 hs hv aZ;obtain⟨h1,h2,h3⟩:=h;obtain⟨e1,e2,e3⟩:=FG hx h3;have hlen:xv.cells.toList.length=(ty P t).size:=by simp[e1,h1]
 have eB:(Instr.storeAt t (.pointer (some ⟨b,base+c,none⟩)) xv).run P γ.w=.ok () (γ.w.setRow b (cur.toList.take (base+c)++xv.cells.toList++cur.toList.drop (base+c+xv.cells.toList.length)).toArray):=by
  have fW:=run_storeCells_at P b (base+c) tt xv.cells.toList 0 cur γ.w jC (by rw[hlen];omega) (λx hx=>e3 x (by simpa using hx));simp only[jb]at fW;simp only[Instr.storeAt,Instr.sureAddr,Sem.run_bind,Sem.run_pure,Result.andThen_ok,storeVar,run_sizeOf hk];have:¬ (xv.cells.size≠(ty P t).size):=by rw[e1,h1];simp
  rw[if_neg this];simpa using fW
 obtain⟨ob,ob',g1,g2,g3,g4,g5⟩:=x5 (setCells row c (cellsOf v)) (cur.toList.take (base+c)++xv.cells.toList++cur.toList.drop (base+c+xv.cells.toList.length)).toArray
  (FL _ _ _) (by simp[hlen];omega) (by
   intro j x hj;rw[Lv _ _ _ (by rw[h1];exact h2)]at hj;rw[zT cur (base+c) xv.cells.toList (by rw[hlen];omega),hlen];by_cases dL:c<=j/\j<c+(cellsOf v).length
   ·rw[if_pos dL]at hj;rw[if_pos I6];have:=e2 _ _ hj;have e:base+j-(base+c)=j-c:=I6;rw[e];simpa [aA,eN] using this
   ·rw[if_neg dL]at hj;rw[if_neg I6];exact kM j x hj) (by
   intro k aJ;rw[zT cur (base+c) xv.cells.toList (by rw[hlen];omega),hlen];rw[if_neg I6])
 refine⟨_,eB,?_,?_⟩
 ·rw[g4];exact hs.write g1 g2 g3 hb (setRow_heap γ.w b cur _ tt _ jC) (λk hk=>setRow_other γ.w b k _ hk) (setRow_size _ _ _) g5
 ·rw[g4];exact Fr.write ob' g1 g2 g3 hb (λk hk=>setRow_other γ.w b k _ hk) (setRow_size _ _ _) rfl rfl rfl
end
end Go.Am
namespace Go.Am
variable {P:Program}
def bk.we{σ:St}{γ:Cx}(h:bk σ γ){sz:Nat}(a6:0<sz):
  bk { σ with aa:=σ.aa++[.arr sz []] } { γ with blk:=cM γ.blk σ.aa.length none }:=by
 have hR:∀ v cv,az σ.aa γ.w γ.Z γ.blk v cv->az (σ.aa++[.arr sz []]) γ.w γ.Z (cM γ.blk σ.aa.length none) v cv:=λv cv hv =>
  hv.mono (λb hb=>⟨hb,rfl⟩) (λi o ho=>by
   have hi:i<σ.aa.length:=(aM.1 ho).1;have cL:(σ.aa++[.arr sz []])[i]?=some o:=by rw[cd hi];exact ho
   by_cases cK:o=.gone
   ·subst cK;exact .inl cL
   ·exact .inr ⟨by simp[cM,k9 hi],o,cL,Ob.jz cK⟩)
 have cp:∀ i b,cM γ.blk σ.aa.length none i=some b->Live (σ.aa++[.arr sz []]) i->Live σ.aa i/\γ.blk i=some b:=by
  rintro i b hb⟨o,ho,cK⟩;simp only[cM]at hb;split at hb
  ·simp at hb
  ·rename_i df;have hi:i<σ.aa.length:=by have:=(aM.1 ho).1;simp at this;omega
   rw[cd hi]at ho;exact⟨⟨o,ho,cK⟩,hb⟩
 refine⟨λk=>hR _ _ (h.ax k),?_,?_,?_,h.gD⟩
 ·intro i o ho;rcases eh i σ.aa.length with hi|hi
  ·rw[cd hi]at ho;exact(h.ei i o ho).mono hR (by simp[cM,k9 hi]) (λ_ _ _ _=>rfl)
  ·have hi':i=σ.aa.length:=by have:=(aM.1 ho).1;simp at this;omega
   subst hi';simp at ho;subst ho;exact⟨a6,Jd,.inl ⟨by simp[cM],rfl⟩⟩
 ·intro i j b o c o' c' hi hj fC fU;obtain⟨x6,lH⟩:=cp i _ fC hi;obtain⟨wA,Cw⟩:=cp j _ fU hj;exact h.inj i j b o c o' c' x6 wA lH Cw
 ·rintro b ⟨i,o,c,hi,hb⟩;obtain⟨x6,lH⟩:=cp i _ hb hi;exact h.nz b ⟨i,o,c,x6,lH⟩
def Fr.we(os:List Ob)(γ:Cx)(sz:Nat):Fr os γ (os++[.arr sz []]) { γ with blk:=cM γ.blk os.length none } where
 lB:=rfl
 tape:=rfl
 output:=rfl
 size:=aG _
 aw:=λ_ _ _=>rfl
 z0:=λ_ h=>h
 z1:=λ_ h=>.inl h
 own:=by
  rintro b⟨i,o,c,⟨x,hx,eQ⟩,hb⟩;simp only[cM]at hb;split at hb
  ·simp at hb
  ·have hi:i<os.length:=by have:=(aM.1 hx).1;simp at this;omega
   rw[cd hi]at hx;exact .inl ⟨i,o,c,⟨x,hx,eQ⟩,hb⟩
 len:=Jd
 ki:=by
  rintro i hi⟨x,hx,eQ⟩;have hx0:=hx;rw[cd hi]at hx;exact⟨by simp[cM,k9 hi],x,x,hx,hx0,Ob.jz eQ⟩
def bk.zS{σ:St}{γ:Cx}(h:bk σ γ){id:Nat}{ob ob':Ob}(ho:σ.aa[id]?=some ob)(hg:ob≠.gone){b o cap o' cap':Nat}(hb:γ.blk id=some (b,o,cap)){w':World}{cur:Array Value}{t:TypeId}(hw:w'.heap[b]?=some (.cells cur t (0,0)))(mI:∀ k,k≠b->w'.heap[k]?=γ.w.heap[k]?)(a6:w'.heap.size=γ.w.heap.size)(aP:qO σ.aa γ.w γ.Z γ.blk o' cap' cur ob'):
  bk { σ with aa:=σ.aa.set id .gone++[ob'] } { γ with w:=w',blk:=cM γ.blk σ.aa.length (some (b,o',cap')) }:=by
 have cP:id<σ.aa.length:=(aM.1 ho).1;have n9:Live σ.aa id:=⟨ob,ho,hg⟩;have hR:∀ v cv,az σ.aa γ.w γ.Z γ.blk v cv->az (σ.aa.set id .gone++[ob']) w' γ.Z (cM γ.blk σ.aa.length (some (b,o',cap'))) v cv:=λv cv hv =>
  hv.mono (λz hz=>⟨hz,mI z (λe=>h.nz b ⟨id,o,cap,n9,hb⟩ (e▸hz))⟩) (λi x hx=>by
   have hi:i<σ.aa.length:=(aM.1 hx).1;rw[cd (by simpa using hi),bV];by_cases lF:id=i
   ·left;simp[lF,hi]
   ·rw[if_neg lF];by_cases cK:x=.gone
    ·subst cK;exact .inl hx
    ·exact .inr ⟨by simp[cM,k9 hi],x,hx,Ob.jz cK⟩)
 have cp:∀ i,Live (σ.aa.set id .gone++[ob']) i->i=σ.aa.length\/(i<σ.aa.length/\i≠id/\Live σ.aa i):=by
  rintro i⟨x,hx,eQ⟩;rcases eh i σ.aa.length with hi|hi
  ·right;rw[cd (by simpa using hi),bV]at hx;split at hx
   ·simp at hx;exact absurd hx.symm eQ
   ·rename_i df;exact⟨hi,Ne.symm df,x,hx,eQ⟩
  ·left;have:=(aM.1 hx).1;simp at this;omega
 refine⟨λk=>hR _ _ (h.ax k),?_,?_,?_,λz hz=>by rw[a6];exact h.gD z hz⟩
 ·intro i x hx;rcases eh i σ.aa.length with hi|hi
  ·rw[cd (by simpa using hi),bV]at hx;split at hx
   ·simp at hx;subst hx;trivial
   ·rename_i df;by_cases cK:x=.gone
    ·subst cK;trivial
    ·refine(h.ei i x hx).mono hR (by simp[cM,k9 hi]) (λz y c hz=>mI z (λe=>df ?_));subst e;exact h.inj id i z o cap y c n9 ⟨x,hx,cK⟩ hb hz
  ·have hi':i=σ.aa.length:=by have:=(aM.1 hx).1;simp at this;omega
   subst hi';rw[eu Jd]at hx;simp at hx;subst hx;exact aP.F1 (b:=b) (cap:=cap') hR (by simp[cM]) hw
 ·intro i j z y c y' c' hi hj fC fU;simp only[cM]at fC fU;rcases cp i hi with rfl|⟨l6,LB,hi'⟩<;>rcases cp j hj with rfl|⟨kL,X9,dG⟩
  ·rfl
  ·rw[if_pos rfl]at fC;rw[if_neg (k9 kL)]at fU;simp at fC;rw[<- fC.1]at fU;exact absurd (h.inj j id b y' c' o cap dG n9 fU hb) X9
  ·rw[if_pos rfl]at fU;rw[if_neg (k9 l6)]at fC;simp at fU;rw[<- fU.1]at fC;exact absurd (h.inj i id b y c o cap hi' n9 fC hb) LB
  ·rw[if_neg (k9 l6)]at fC;rw[if_neg (k9 kL)]at fU;exact h.inj i j z y c y' c' hi' dG fC fU
 ·rintro z ⟨i,y,c,hi,hz⟩ l7;simp only[cM]at hz;rcases cp i hi with rfl|⟨l6,LB,hi'⟩
  ·rw[if_pos rfl]at hz;simp at hz;rw[<- hz.1]at l7;exact h.nz b ⟨id,o,cap,n9,hb⟩ l7
  ·rw[if_neg (k9 l6)]at hz;exact h.nz z ⟨i,y,c,hi',hz⟩ l7
def Fr.zS{σ:St}{γ:Cx}{id:Nat}{ob:Ob}(ob':Ob)(ho:σ.aa[id]?=some ob)(hg:ob≠.gone){b o cap o' cap':Nat}(hb:γ.blk id=some (b,o,cap)){w':World}(mI:∀ k,k≠b->w'.heap[k]?=γ.w.heap[k]?)(a6:w'.heap.size=γ.w.heap.size)(h1:w'.os=γ.w.os)(h2:w'.tape=γ.w.tape)(h3:w'.output=γ.w.output):
  Fr σ.aa γ (σ.aa.set id .gone++[ob']) { γ with w:=w',blk:=cM γ.blk σ.aa.length (some (b,o',cap')) } where
 lB:=h1
 tape:=h2
 output:=h3
 size:=by simp[a6]
 aw:=λz _ uE=>mI z (λe=>uE ⟨id,o,cap,⟨ob,ho,hg⟩,e▸hb⟩)
 z0:=λ_ h=>h
 z1:=λ_ h=>.inl h
 own:=by
  rintro z⟨i,y,c,⟨x,hx,eQ⟩,hz⟩;simp only[cM]at hz;split at hz
  ·simp at hz;left;exact⟨id,o,cap,⟨ob,ho,hg⟩,by rw[hb,hz.1]⟩
  ·have hi:i<σ.aa.length:=by have:=(aM.1 hx).1;simp at this;omega
   rw[cd (by simpa using hi),bV]at hx;split at hx
   ·split at hx<;>simp at hx;exact absurd hx.symm eQ
   ·exact .inl ⟨i,y,c,⟨x,hx,eQ⟩,hz⟩
 len:=Jd
 ki:=by
  rintro i hi⟨x,hx,eQ⟩;have hx0:=hx;rw[cd (by simpa using hi),bV]at hx;split at hx
  ·split at hx<;>simp at hx;exact absurd hx.symm eQ
  ·exact⟨by simp[cM,k9 hi],x,x,hx,hx0,Ob.jz eQ⟩
def Lr{σ:St}{γ:Cx}(h:bk σ γ){x:AV}{cv:Value}(hv:az σ.aa γ.w γ.Z γ.blk x cv){sz:Nat}(a6:0<sz){src:List (List AV)}(hs:mF σ x=some (sz,src)):
  ∃ ad c,∃ g:Nat->Value,cv=.slice ad src.length c/\(∀ row∈src,row.length=sz)/\(0<src.length->∃ b o,ad=some ⟨b,o,none⟩/\∀ j,j<src.length*sz->γ.w.cell? ⟨b,o+j,none⟩=some (g j)) /\
   ∀ r c v,cellAt src r c=some v->az σ.aa γ.w γ.Z γ.blk v (g (r*sz+c)):=by
 cases x with
 |tree cJ rows =>
  simp[mF]at hs;obtain⟨rfl,rfl⟩:=hs;cases hv.v8 with
  |nil _ cap a=>exact⟨a,cap,λ_=>Go.undef,rfl,Jd,Jd,by simp[cellAt]⟩
  |tree _ _ b o cap f hz hr zV hc ht =>
   refine⟨_,cap,λj=>f (j/cJ) (j%cJ),rfl,hr,λhlen=>⟨b,o,rfl,?_⟩,?_⟩
   ·intro j hj;have h1:j/cJ<rows.length:=Nat.div_lt_of_lt_mul (by rw[pB];exact hj);have h2:j%cJ<cJ:=Nat.mod_lt _ a6;have cD:(rows[j/cJ]).length=cJ:=hr _ (List.getElem_mem h1);have:=hc (j/cJ) (j%cJ) ((rows[j/cJ])[j%cJ]' I6) (by simp[cellAt,h1,h2,cD]);have e:j/cJ*cJ+j%cJ=j:=by rw[pB];exact Nat.div_add_mod j cJ
    rw[e]at this;exact this
   ·intro r c v a9;have cy:c<cJ:=by
     simp only[cellAt,vD]at a9;obtain⟨y,hy,oe⟩:=a9;have:=hr y (gf hy);have:=(aM.1 oe).1;omega
    have e1:(r*cJ+c)/cJ=r:=by rw[pB,Nat.mul_add_div a6,Nat.div_eq_of_lt cy];rfl
    have e2:(r*cJ+c)%cJ=c:=by rw[pB,Nat.mul_add_mod,Nat.mod_eq_of_lt cy]
    simp only[e1,e2];exact .bS _ _ (ht r c v a9)
 |ref id cJ off len =>
  simp only[mF]at hs;cases ho:σ.aa[id]? with
  |none=>simp[ho]at hs
  |some ob =>
   have aP:=h.ei id ob ho;cases ob with
   |gone=>simp[ho]at hs
   |mp ag L=>simp[ho]at hs
   |var cells=>simp[ho]at hs
   |arr j5 rows =>
    simp only[ho]at hs;split at hs
    ·rename_i he;subst he;simp at hs;obtain⟨rfl,rfl⟩:=hs;obtain⟨_,cD,aP⟩:=aP;cases hv with
     |bS _ _ h=>cases h
     |j6 _ _ _ _ _ h=>rw[ho]at h;simp at h
     |ll _ _ h hb =>
      rw[ho]at h;simp at h;subst h;exact⟨none,0,λ_=>Go.undef,rfl,Jd,Jd,by simp[cellAt]⟩
     |lD _ _ _ b x bo fE h hb hl =>
      exact⟨some ⟨b,x,none⟩,0,λ_=>Go.undef,Jd,Jd,Jd,by simp[cellAt]⟩
     |ref _ _ _ _ b o cap cap' fE h hb hl hc kI =>
      rw[ho]at h;simp at h;subst h;rcases aP with⟨h1,_⟩|⟨b',o',zw,cur,t,h1,h2,h3,h4,h5,h6⟩
      ·rw[hb]at h1;simp at h1
      ·rw[hb]at h1;simp at h1;obtain⟨rfl,rfl,rfl⟩:=h1;have hlen:((rows.drop off).take len).length=len:=aaZ;refine⟨_,cap',λj=>cur.getD (o+off*j5+j) Go.undef,by rw[hlen],?_,λ_=>⟨b,o+off*j5,rfl,?_⟩,?_⟩
       ·intro row aZ;exact cD row (List.mem_of_mem_drop (List.mem_of_mem_take aZ))
       ·intro j hj;rw[hlen]at hj;refine xJ h2 ?_;have:(off+len)*j5<=cap*j5:=lW _ I6;rw[eX]at this;omega
       ·intro r c v a9;simp only[cellAt,rN,mY]at a9;split at a9
        ·have:=h6 (off+r) c v a9;rw[eX]at this;have e:o+(off*j5+r*j5+c)=o+off*j5+(r*j5+c):=I6;rw[e]at this;exact this
        ·simp at a9
    ·simp at hs
 |_=>simp[mF]at hs
end Go.Am

