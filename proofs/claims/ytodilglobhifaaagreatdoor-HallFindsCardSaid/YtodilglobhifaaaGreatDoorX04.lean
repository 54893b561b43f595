import Derived.Test.YtodilglobhifaaaGreatDoorX03
set_option linter.all false
set_option maxHeartbeats 0
set_option maxRecDepth 20000
open Bool renaming and_eq_true→bd
open List renaming mem_cons→cD,mem_of_getElem?→fB,getElem?_map→dm,getElem?_cons_zero→sE,getElem?_append_left→cr,getElem?_set_ne→dq,getElem?_cons_succ→Dk,getElem?_append_right→dS,length_cons→cK,eq_nil_of_length_eq_zero→vT,getElem?_eq_some_iff→ba,getD_eq_getElem?_getD→aw,mem_map_of_mem→Aw,length_map→iS,mem_map→cN,all_eq_true→gN,map_congr_left→oO
open Option renaming map_eq_some_iff→ud,some→dv,map_some→g9
open Nat renaming lt_or_ge→dD,le_refl→aM
open Array renaming toList_append→vQ,getD_eq_getD_getElem?→dC,getElem?_append_left→xJ,getElem?_toList→vR,getElem?_map→G9,getElem?_append_right→G'
namespace Go.Am
variable {P:Program}
mutual
def aU(ρ:Nat->Nat):AV->AV
 |.ref id sz off len=>.ref (ρ id) sz off len
 |.ptr id r c=>.ptr (ρ id) r c
 |.agg cs=>.agg (lD ρ cs)
 |.bP cs=>.bP (lD ρ cs)
 |.fn f cs=>.fn f (lD ρ cs)
 |.fj t v=>.fj t (aU ρ v)
 |.dx id=>.dx (ρ id)
 |v=>v
def lD(ρ:Nat->Nat):List AV->List AV
 |[]=>[]
 |v::vs=>aU ρ v::lD ρ vs
end
def sN(ρ:Nat->Nat)(l:List AV):lD ρ l=l.map (aU ρ):=by
 induction l with
 |nil=>simp[lD]
 |cons v l ih=>simp[lD,ih]
def bu(ρ:Nat->Nat):Ob->Ob
 |.gone=>.gone
 |.var cs=>.var (cs.map (aU ρ))
 |.arr sz rows=>.arr sz (rows.map (·.map (aU ρ)))
 |.mp ag L=>.mp ag (L.map λp=>(p.1,aU ρ p.2))
mutual
def flat:AV->Bool
 |.tree ..=>false
 |.cm _=>false
 |.agg cs=>wq cs
 |.bP cs=>wq cs
 |.fn _ cs=>wq cs
 |.fj _ v=>flat v
 |_=>true
def wq:List AV->Bool
 |[]=>true
 |v::vs=>flat v&&wq vs
end
def D5{l:List AV}(h:wq l=true):∀ v∈l,flat v=true:=by
 induction l with
 |nil=>intro v hv;simp at hv
 |cons x l ih =>
  simp only[wq,bd]at h;intro v hv;rcases cD.1 hv with rfl|hv
  ·exact h.1
  ·exact ih h.2 v hv
def A3:Ob->Prop
 |.gone=>True
 |.var cs=>∀ v∈cs,flat v=true
 |.arr _ rows=>∀ row∈rows,∀ v∈row,flat v=true
 |.mp _ L=>∀ p∈L,flat p.2=true
def aq.Th{os:List Ob}{w:World}{Z Z':Nat->Prop}{blk:eW}{v:AV}{cv:Value}(h:aq os w Z blk v cv)(hf:flat v=true):aq os w Z' blk v cv:=by
 induction h with
 |undef cv=>exact .undef cv
 |bO v cv h=>cases h<;>first|exact .bO _ _ (.lit _)|simp[flat]at hf
 |cm=>simp[flat]at hf
 |iz id sz off len cv h h1=>exact .iz id sz off len cv h h1
 |ki id r c cv h h1=>exact .ki id r c cv h h1
 |ref id sz off len b o cap cap' rows h hb hl hc dt=>exact .ref id sz off len b o cap cap' rows h hb hl hc dt
 |ju id sz h hb=>exact .ju id sz h hb
 |jV id sz off b x bo rows h hb hl=>exact .jV id sz off b x bo rows h hb hl
 |kG id c b cap cells h hb=>exact .kG id c b cap cells h hb
 |ld id r c sz b o cap rows h hb=>exact .ld id r c sz b o cap rows h hb
 |agg cs aI hs _ ih=>simp only[flat]at hf;exact .agg cs aI hs (λj x hx=>ih j x hx (D5 hf x (fB hx)))
 |bP cs aI hs _ ih=>simp only[flat]at hf;exact .bP cs aI hs (λj x hx=>ih j x hx (D5 hf x (fB hx)))
 |fn f cs aI hs _ ih=>simp only[flat]at hf;exact .fn f cs aI hs (λj x hx=>ih j x hx (D5 hf x (fB hx)))
 |fj t v cv _ ih=>simp only[flat]at hf;exact .fj t v cv (ih hf)
 |dx id b ag L h hb=>exact .dx id b ag L h hb
 |ng id cv h h1=>exact .ng id cv h h1
def aq.up{os os':List Ob}{w:World}{Z Z':Nat->Prop}{blk gW:eW}{ρ:Nat->Nat}{v:AV}{cv:Value}(h:aq os w Z blk v cv)(hz:∀ b,Z b->Z' b)(ho:∀ j o,os[j]?=some o->os'[ρ j]?=some (bu ρ o)/\(o≠.gone->gW (ρ j)=blk j)):aq os' w Z' gW (aU ρ v) cv:=by
 induction h with
 |undef cv=>exact .undef cv
 |bO v cv h =>
  have h':aq os' w Z' gW v cv:=.bO _ _ (h.mono (λb hb=>⟨hz b hb,rfl⟩));cases h<;>simpa [aU] using h'
 |cm cells b o f oc hc ht=>exact .cm cells b o f (hz b oc) hc (λj x hx=>(ht j x hx).mono (λb hb=>⟨hz b hb,rfl⟩))
 |iz id sz off len cv h h1=>exact .iz _ sz off len cv (ho id _ h).1 h1
 |ki id r c cv h h1=>exact .ki _ r c cv (ho id _ h).1 h1
 |ref id sz off len b o cap cap' rows h hb hl hc dt =>
  obtain⟨h1,h2⟩:=ho id _ h;exact .ref _ sz off len b o cap cap' _ h1 ((h2 Dg).trans hb) (by simpa using hl) hc dt
 |ju id sz h hb =>
  obtain⟨h1,h2⟩:=ho id _ h;exact .ju _ sz h1 ((h2 Dg).trans hb)
 |jV id sz off b x bo rows h hb hl =>
  obtain⟨h1,h2⟩:=ho id _ h;exact .jV _ sz off b x bo _ h1 ((h2 Dg).trans hb) (by simpa using hl)
 |kG id c b cap cells h hb =>
  obtain⟨h1,h2⟩:=ho id _ h;exact .kG _ c b cap _ h1 ((h2 Dg).trans hb)
 |ld id r c sz b o cap rows h hb =>
  obtain⟨h1,h2⟩:=ho id _ h;exact .ld _ r c sz b o cap _ h1 ((h2 Dg).trans hb)
 |agg cs aI hs _ ih =>
  simp only[aU,sN];refine .agg _ aI (by simpa using hs) (λj x hx=>?_);simp only[dm,ud]at hx;obtain⟨y,hy,rfl⟩:=hx;exact ih j y hy
 |bP cs aI hs _ ih =>
  simp only[aU,sN];refine .bP _ aI (by simpa using hs) (λj x hx=>?_);simp only[dm,ud]at hx;obtain⟨y,hy,rfl⟩:=hx;exact ih j y hy
 |fn f cs aI hs _ ih =>
  simp only[aU,sN];refine .fn f _ aI (by simpa using hs) (λj x hx=>?_);simp only[dm,ud]at hx;obtain⟨y,hy,rfl⟩:=hx;exact ih j y hy
 |fj t v cv _ ih=>simp only[aU];exact .fj t _ cv ih
 |dx id b ag L h hb =>
  obtain⟨h1,h2⟩:=ho id _ h;exact .dx _ b ag _ h1 ((h2 Dg).trans hb)
 |ng id cv h h1=>exact .ng _ cv (ho id _ h).1 h1
def yo{ρ:Nat->Nat}{o:Ob}:bu ρ o=.gone↔o=.gone:=by cases o<;>simp[bu]
def Ob.Ti{ρ:Nat->Nat}{x y:Ob}(h:x.db y):(bu ρ x).db (bu ρ y):=by
 cases x<;>cases y<;>simp[Ob.db,bu]at h ⊢<;>exact h
def aq.down{os os':List Ob}{w:World}{Z Z':Nat->Prop}{blk gW:eW}{ρ:Nat->Nat}{v:AV}{cv:Value}(h:aq os w Z blk v cv)(hz:∀ b,Z b->Z' b)(ho:∀ j x,os[ρ j]?=some x->∃ o,os'[j]?=some o/\(o=.gone\/(x=bu ρ o/\gW j=blk (ρ j)))):∀ v',v=aU ρ v'->aq os' w Z' gW v' cv:=by
 induction h with
 |undef cv=>intro v' hv;cases v'<;>simp[aU]at hv;exact .undef cv
 |bO v cv h =>
  intro v' hv;have h':aq os' w Z' gW v cv:=.bO _ _ (h.mono (λb hb=>⟨hz b hb,rfl⟩));cases h<;>cases v'<;>simp[aU]at hv<;>(first|(subst hv;exact h')|(obtain⟨rfl,rfl⟩:=hv;exact h'))
 |cm cells b o f oc hc ht =>
  intro v' hv;cases v'<;>simp[aU]at hv;subst hv;exact .cm _ b o f (hz b oc) hc (λj x hx=>(ht j x hx).mono (λb hb=>⟨hz b hb,rfl⟩))
 |iz id sz off len cv h h1 =>
  intro v' hv;cases v'<;>simp[aU]at hv;obtain⟨rfl,rfl,rfl,rfl⟩:=hv;obtain⟨o,h2,rfl |⟨h3,_⟩⟩:=ho _ _ h
  ·exact .iz _ _ _ _ cv h2 h1
  ·have:=yo.1 h3.symm;subst this;exact .iz _ _ _ _ cv h2 h1
 |ki id r c cv h h1 =>
  intro v' hv;cases v'<;>simp[aU]at hv;obtain⟨rfl,rfl,rfl⟩:=hv;obtain⟨o,h2,rfl |⟨h3,_⟩⟩:=ho _ _ h
  ·exact .ki _ _ _ cv h2 h1
  ·have:=yo.1 h3.symm;subst this;exact .ki _ _ _ cv h2 h1
 |ref id sz off len b o cap cap' rows h hb hl hc dt =>
  intro v' hv;cases v'<;>simp[aU]at hv;obtain⟨rfl,rfl,rfl,rfl⟩:=hv;obtain⟨x,h2,rfl |⟨h3,h4⟩⟩:=ho _ _ h
  ·exact .iz _ _ _ _ _ h2 rfl
  ·cases x<;>simp[bu]at h3;obtain⟨rfl,rfl⟩:=h3;exact .ref _ _ _ _ b o cap cap' _ h2 (h4.trans hb) (by simpa using hl) hc dt
 |ju id sz h hb =>
  intro v' hv;cases v'<;>simp[aU]at hv;obtain⟨rfl,rfl,rfl,rfl⟩:=hv;obtain⟨x,h2,rfl |⟨h3,h4⟩⟩:=ho _ _ h
  ·exact .iz _ _ _ _ _ h2 rfl
  ·cases x<;>simp[bu]at h3;obtain⟨rfl,h3⟩:=h3;subst h3;exact .ju _ _ h2 (h4.trans hb)
 |jV id sz off b x bo rows h hb hl =>
  intro v' hv;cases v'<;>simp[aU]at hv;obtain⟨rfl,rfl,rfl,rfl⟩:=hv;obtain⟨y,h2,rfl |⟨h3,h4⟩⟩:=ho _ _ h
  ·exact .iz _ _ _ _ _ h2 rfl
  ·cases y<;>simp[bu]at h3;obtain⟨rfl,rfl⟩:=h3;exact .jV _ _ _ b x bo _ h2 (h4.trans hb) (by simpa using hl)
 |kG id c b cap cells h hb =>
  intro v' hv;cases v'<;>simp[aU]at hv;obtain⟨rfl,rfl,rfl⟩:=hv;obtain⟨y,h2,rfl |⟨h3,h4⟩⟩:=ho _ _ h
  ·exact .ki _ _ _ _ h2 rfl
  ·cases y<;>simp[bu]at h3;exact .kG _ _ b cap _ h2 (h4.trans hb)
 |ld id r c sz b o cap rows h hb =>
  intro v' hv;cases v'<;>simp[aU]at hv;obtain⟨rfl,rfl,rfl⟩:=hv;obtain⟨y,h2,rfl |⟨h3,h4⟩⟩:=ho _ _ h
  ·exact .ki _ _ _ _ h2 rfl
  ·cases y<;>simp[bu]at h3;obtain⟨rfl,rfl⟩:=h3;exact .ld _ _ _ _ b o cap _ h2 (h4.trans hb)
 |agg cs aI hs _ ih =>
  intro v' hv;cases v'<;>simp[aU,sN]at hv;rename_i nh;subst hv;exact .agg _ aI (by simpa using hs) (λj x hx=>ih j (aU ρ x) (by simp[hx]) x rfl)
 |bP cs aI hs _ ih =>
  intro v' hv;cases v'<;>simp[aU,sN]at hv;rename_i nh;subst hv;exact .bP _ aI (by simpa using hs) (λj x hx=>ih j (aU ρ x) (by simp[hx]) x rfl)
 |fn f cs aI hs _ ih =>
  intro v' hv;cases v'<;>simp[aU,sN]at hv;obtain⟨rfl,hv⟩:=hv;subst hv;exact .fn _ _ aI (by simpa using hs) (λj x hx=>ih j (aU ρ x) (by simp[hx]) x rfl)
 |fj t v cv _ ih =>
  intro v' hv;cases v'<;>simp[aU]at hv;obtain⟨rfl,hv⟩:=hv;exact .fj _ _ cv (ih _ hv)
 |dx id b ag L h hb =>
  intro v' hv;cases v'<;>simp[aU]at hv;subst hv;obtain⟨y,h2,rfl |⟨h3,h4⟩⟩:=ho _ _ h
  ·exact .ng _ _ h2 rfl
  ·cases y<;>simp[bu]at h3;obtain⟨rfl,h3⟩:=h3;exact .dx _ b _ _ h2 (h4.trans hb)
 |ng id cv h h1 =>
  intro v' hv;cases v'<;>simp[aU]at hv;subst hv;obtain⟨y,h2,rfl |⟨h3,h4⟩⟩:=ho _ _ h
  ·exact .ng _ _ h2 h1
  ·exact .ng _ _ (by rw[h2,yo.1 h3.symm]) h1
def KG(P : Program)(f : FuncId): Prop := ∃ fn, P.funcs[f]? = some fn /\ (fn.name == "runtime.NumGoroutine") = false /\ fn.body.isNone = false
def ao(P:Program)(f:FuncId)(args:List AV)(aa:List Ob)(res:AV)(aY:List Ob):Prop :=
 KG P f/\∀ γ:Cx,γ.tmps.size=args.length->aZ ⟨λk=>args.getD k .undef,aa⟩ γ ->
  Calls P f γ.tmps γ.w (λe w'=>∃ cv av,e=.returned cv/\av.w=w'/\av.tmps = #[cv]/\aZ ⟨λk=>[res].getD k .undef,aY⟩ av/\Fr aa γ aY av)
inductive cA(σ:St)(kp:Nat->Prop):AV->AV->Prop
 |lit (x:Value):cA σ kp (.lit x) (.lit x)
 |tree (s:Nat) (r:List (List AV)):cA σ kp (.tree s r) (.tree s r)
 |nil (sz:Nat):cA σ kp (.tree sz []) (.lit (.slice none 0 0))
 |ref (id sz off len:Nat) (rows eV:List (List AV)) (g:Nat->Nat->AV) (ho:σ.aa[id]?=some (.arr sz rows)) (n7:¬ kp id) (hl:eV.length=((rows.drop off).take len).length) (hw:∀ row∈eV,row.length=sz)
   (h1:∀ r c v,cellAt eV r c=some v->cellAt ((rows.drop off).take len) r c=some (g r c)) (h2:∀ r c v,cellAt eV r c=some v->cA σ kp v (g r c)):cA σ kp (.tree sz eV) (.ref id sz off len)
inductive a9(σ:St)(kp:Nat->Prop)(ρ:Nat->Nat)(snap:Bool):AV->AV->Prop
 |same (v:AV):a9 σ kp ρ snap v (aU ρ v)
 |snap (c d:AV) (hs:snap=true) (h:cA σ kp c d):a9 σ kp ρ snap c d
 |agg (cs ds:List AV) (hl:cs.length=ds.length) (h:∀ (j:Nat) c d,cs[j]?=some c->ds[j]?=some d->a9 σ kp ρ snap c d):a9 σ kp ρ snap (.agg cs) (.agg ds)
 |bP (cs ds:List AV) (hl:cs.length=ds.length) (h:∀ (j:Nat) c d,cs[j]?=some c->ds[j]?=some d->a9 σ kp ρ snap c d):a9 σ kp ρ snap (.bP cs) (.bP ds)
def bq(n:Nat)(ab:List Nat)(j:Nat):Nat:=if j<ab.length then ab.getD j 0 else n+(j-ab.length)
def dU(aa:List Ob):List Nat->List Ob->List Ob
 |i::ab,o::new=>dU (aa.set i o) ab new
 |[],new=>aa++new
 |_::_,[]=>aa
def D0(ab:List Nat):∀ (aa new:List Ob),ab.length<=new.length->(dU aa ab new).length=aa.length+(new.length-ab.length):=by
 induction ab with
 |nil=>intro aa new _;simp[dU]
 |cons i ab ih =>
  intro aa new h;cases new with
  |nil=>simp at h
  |cons o new=>simp only[dU];rw[ih _ _ (by simpa using h)];simp
def Bh(ab:List Nat):∀ (aa new:List Ob),ab.length<=new.length->ab.Nodup->(∀ i∈ab,i<aa.length)->∀ j,j<ab.length->(dU aa ab new)[ab.getD j 0]?=new[j]?:=by
 induction ab with
 |nil=>intro aa new _ _ _ j hj;simp at hj
 |cons i ab ih =>
  intro aa new h hn hl j hj;cases new with
  |nil=>simp at h
  |cons o new =>
   simp only[dU];rw[List.nodup_cons]at hn;have hi:=hl i Dg;have h':ab.length<=new.length:=by simpa using h
   cases j with
   |zero =>
    simp only[List.getD_cons_zero,sE];have key:∀ (ab:List Nat) (aa new:List Ob),ab.length<=new.length->i ∉ ab->i<aa.length->(dU aa ab new)[i]?=aa[i]?:=by
     intro ab
     induction ab with
     |nil=>intro aa new _ _ hi;simp only[dU];rw[cr hi]
     |cons k ab Tj =>
      intro aa new h qj hi;cases new with
      |nil=>simp at h
      |cons o new =>
       simp only[cD,not_or]at qj;simp only[dU];rw[Tj _ _ (by simpa using h) qj.2 (by simpa using hi),dq (Ne.symm qj.1)]
    rw[key ab _ _ h' hn.1 (by simpa using hi)];simp[hi]
   |succ j =>
    simp only[List.getD_cons_succ,Dk];exact ih _ _ h' hn.2 (λk hk=>by simpa using hl k (by simp[hk])) j (by simpa using hj)
def Bi(ab:List Nat):∀ (aa new:List Ob),ab.length<=new.length->∀ i,i ∉ ab->i<aa.length->(dU aa ab new)[i]?=aa[i]?:=by
 induction ab with
 |nil=>intro aa new _ i _ hi;simp only[dU];rw[cr hi]
 |cons k ab ih =>
  intro aa new h i qj hi;cases new with
  |nil=>simp at h
  |cons o new =>
   simp only[cD,not_or]at qj;simp only[dU];rw[ih _ _ (by simpa using h) i qj.2 (by simpa using hi),dq (Ne.symm qj.1)]
def KC(ab:List Nat):∀ (aa new:List Ob),ab.length<=new.length->∀ m,(dU aa ab new)[aa.length+m]?=new[ab.length+m]?:=by
 induction ab with
 |nil=>intro aa new _ m;simp only[dU];rw[dS Ay];simp
 |cons k ab ih =>
  intro aa new h m;cases new with
  |nil=>simp at h
  |cons o new =>
   simp only[dU];have:=ih (aa.set k o) new (by simpa using h) m;simp only[List.length_set]at this;rw[this];simp only[cK];have e:ab.length+1+m=(ab.length+m)+1:=Ay;rw[e];simp
end Go.Am
namespace Go.Am
variable {P:Program}
def Bj(P:Program)(f:FuncId)(args:List AV)(σ:St)(K:AV->St->Prop):Prop :=
 ∃ (ab:List Nat) (snap:Bool) (cu:List AV) (bn:List Ob) (res:AV) (bY:List Ob),ao P f cu bn res bY /\
  (ab.Nodup/\bn.length=ab.length/\(∀ (j:Nat) o,bn[j]?=some o->σ.aa[ab.getD j 0]?=some (bu (bq σ.aa.length ab) o)) /\
   cu.length=args.length/\(∀ (j:Nat) c d,cu[j]?=some c->args[j]?=some d->a9 σ (·∈ab) (bq σ.aa.length ab) snap c d) /\
   (snap=true->flat res=true/\∀ o∈bY,A3 o)) /\
  K (aU (bq σ.aa.length ab) res) { σ with aa:=dU σ.aa ab (bY.map (bu (bq σ.aa.length ab))) }
def cA.wg{σ:St}{γ:Cx}(h:aZ σ γ){kp:Nat->Prop}{γc:Cx}(hz:∀ b,γ.Z b->γc.Z b)(hw:γc.w=γ.w)(D6:∀ id b o cap,¬ kp id->Live σ.aa id->γ.blk id=some (b,o,cap)->γc.Z b){c d:AV}(ha:cA σ kp c d):∀ cv,aq σ.aa γ.w γ.Z γ.blk d cv->eR γc.w γc.Z c cv:=by
 induction ha with
 |lit x=>intro cv hv;rw[hv.bQ];exact .lit x
 |tree s r=>intro cv hv;exact hv.wu.mono (λb hb=>⟨hz b hb,by rw[hw]⟩)
 |nil sz=>intro cv hv;rw[hv.bQ];exact .nil sz 0 none
 |ref id sz off len rows eV g bb n7 hl0 Bb dG cI ih =>
  intro cv hv;obtain⟨h0,dH,Tk⟩:=h.dL id _ bb;have bx:Live σ.aa id:=⟨_,bb,Dg⟩;cases hv with
  |bO _ _ h=>cases h
  |iz _ _ _ _ _ h=>rw[bb]at h;simp at h
  |ju _ _ h' hb =>
   have:eV=[]:=vT (by simpa using hl0);subst this;exact eR.nil sz 0 none
  |jV _ _ _ b x bo Tl h' hb hl =>
   have:eV=[]:=vT (by simpa using hl0);subst this;exact eR.nil sz 0 (some ⟨b,x,none⟩)
  |ref _ _ _ _ b o cap cap' Tl h' hb hl hc dt =>
   rw[bb]at h';simp at h';subst h';rcases Tk with⟨h1,_⟩|⟨b',o',yp,cur,t,h1,h2,h3,h4,h5,h6⟩
   ·rw[hb]at h1;simp at h1
   ·rw[hb]at h1;simp at h1;obtain⟨rfl,rfl,rfl⟩:=h1;have hlen:((rows.drop off).take len).length=len:=aab;have ql:∀ r c v,cellAt ((rows.drop off).take len) r c=some v->cellAt rows (off+r) c=some v/\r<len:=by
     intro r c v hv;simp only[cellAt,List.getElem?_take,List.getElem?_drop]at hv;split at hv
     ·exact⟨hv,by assumption⟩
     ·simp at hv
    have D7:γc.Z b:=D6 id b o cap n7 bx hb;have:=eR.tree (w:=γc.w) (Z:=γc.Z) sz eV b (o+off*sz) cap' (λr c=>cur.getD (o+((off+r)*sz+c)) Go.undef) D7
     Bb (by rw[hl0,hlen];exact dt)
     (λr c v hv=>by
      obtain⟨oY,hr⟩:=ql r c _ (dG r c v hv);obtain⟨mC,jr⟩:=yq dH oY;have bw:=uN (show off+r<cap by omega) jr;rw[hw];have e:o+off*sz+(r*sz+c)=o+((off+r)*sz+c):=by rw[Nat.add_mul];omega
      rw[e];exact wv h2 Ay)
     (λr c v hv=>by
      obtain⟨oY,_⟩:=ql r c _ (dG r c v hv);exact ih r c v hv _ (h6 _ _ _ oY))
    rw[hl0,hlen]at this;exact this
def a9.rel{σ:St}{γ:Cx}(h:aZ σ γ){kp:Nat->Prop}{ρ:Nat->Nat}{bn:List Ob}{snap:Bool}{γc:Cx}(hz:∀ b,γ.Z b->γc.Z b)(hw:γc.w=γ.w)(D6:snap=true->∀ id b o cap,¬ kp id->Live σ.aa id->γ.blk id=some (b,o,cap)->γc.Z b)(ho:∀ j x,σ.aa[ρ j]?=some x->∃ o,bn[j]?=some o/\(o=.gone\/(x=bu ρ o/\γc.blk j=γ.blk (ρ j)))){c d:AV}(ha:a9 σ kp ρ snap c d):∀ cv,aq σ.aa γ.w γ.Z γ.blk d cv->aq bn γc.w γc.Z γc.blk c cv:=by
 induction ha with
 |same v =>
  intro cv hv;rw[hw];exact hv.down hz ho v rfl
 |snap c d hs hf =>
  intro cv hv;exact .bO _ _ (hf.wg h hz hw (D6 hs) cv hv)
 |agg cs ds hl _ ih =>
  intro cv hv;obtain⟨aI,rfl,h1,h2⟩:=hv.KH;refine .agg cs aI Ay (λj x hx=>?_);have hj:j<ds.length:=by have:=(ba.1 hx).1;omega
  exact ih j x ds[j] hx (by simp[hj]) _ (h2 j _ (by simp[hj]))
 |bP cs ds hl _ ih =>
  intro cv hv;obtain⟨aI,rfl,h1,h2⟩:=hv.KI;refine .bP cs aI Ay (λj x hx=>?_);have hj:j<ds.length:=by have:=(ba.1 hx).1;omega
  exact ih j x ds[j] hx (by simp[hj]) _ (h2 j _ (by simp[hj]))
def KJ{n:Nat}{ab:List Nat}(_hs:∀ i∈ab,i<n){j:Nat}(h:bq n ab j<n):j<ab.length/\bq n ab j=ab.getD j 0:=by
 unfold bq at h ⊢;split
 ·exact⟨by assumption,rfl⟩
 ·rename_i hj;rw[if_neg hj]at h;omega
def aG{ab:List Nat}{j:Nat}(h:j<ab.length):ab.getD j 0∈ab:=by
 rw[aw];simp[h]
def KK{ab:List Nat}(hn:ab.Nodup){i j:Nat}(hi:i<ab.length)(hj:j<ab.length)(h:ab.getD i 0=ab.getD j 0):i=j:=by
 rw[aw,aw]at h;simp[hi,hj]at h;exact(List.getElem_inj hn).1 h
def Bk{ab:List Nat}{i:Nat}(h:i∈ab):∃j,j<ab.length/\ab.getD j 0=i:=by
 obtain⟨j,hj⟩:=List.mem_iff_getElem?.1 h;have:=(ba.1 hj).1;exact⟨j,this,by rw[aw,hj];rfl⟩
def eM(P:Program)(f:FuncId)(args:List AV)(aa:List Ob)(eZ:AV->List Ob->Prop):Prop :=
 KG P f/\∀ γ:Cx,γ.tmps.size=args.length->aZ ⟨λk=>args.getD k .undef,aa⟩ γ ->
  Calls P f γ.tmps γ.w (λe w'=>∃ res aY cv av,eZ res aY/\e=.returned cv/\av.w=w'/\av.tmps = #[cv]/\aZ ⟨λk=>[res].getD k .undef,aY⟩ av/\Fr aa γ aY av)
def DS(P:Program)(f:FuncId)(args:List AV)(σ:St)(K:AV->St->Prop):Prop :=
 ∃ (ab:List Nat) (snap:Bool) (cu:List AV) (bn:List Ob) (eZ:AV->List Ob->Prop),eM P f cu bn eZ /\
  (ab.Nodup/\bn.length=ab.length/\(∀ (j:Nat) o,bn[j]?=some o->σ.aa[ab.getD j 0]?=some (bu (bq σ.aa.length ab) o)) /\
   cu.length=args.length/\(∀ (j:Nat) c d,cu[j]?=some c->args[j]?=some d->a9 σ (·∈ab) (bq σ.aa.length ab) snap c d)) /\
  ∀ res bY,eZ res bY->(snap=true->flat res=true/\∀ o∈bY,A3 o) /\
   K (aU (bq σ.aa.length ab) res) { σ with aa:=dU σ.aa ab (bY.map (bu (bq σ.aa.length ab))) }
def DU{σ:St}{γ:Cx}(h:aZ σ γ){f:FuncId}{args:List AV}{argv:Array Value}(aE:argv.size=args.length)(D8:∀ (j:Nat) d,args[j]?=some d->aq σ.aa γ.w γ.Z γ.blk d (argv.getD j Go.undef)){K:AV->St->Prop}(hc:DS P f args σ K):
  Calls P f argv γ.w (λe w'=>∃ cv v σ' av,e=.returned cv/\av.w=w'/\av.tmps=γ.tmps/\aZ σ' av/\Fr σ.aa γ σ'.aa av/\aq σ'.aa av.w av.Z av.blk v cv/\K v σ'/\σ'.env=σ.env):=by
 obtain⟨ab,snap,cu,bn,eZ,hH,⟨cR,cS,o9,jv,jS⟩,Tm⟩:=hc;have jy:∀ i∈ab,i<σ.aa.length:=by
  intro i hi;obtain⟨j,hj,rfl⟩:=Bk hi;have:j<bn.length:=Ay;exact(ba.1 (o9 j bn[j] (by simp[this]))).1
 let ρ:=bq σ.aa.length ab
 let S:Nat->Prop:=λb=>snap=true/\∃ id o cap,id ∉ ab/\Live σ.aa id/\γ.blk id=some (b,o,cap)
 let γc:Cx:={ w:=γ.w,tmps:=argv,Z:=λb=>γ.Z b\/S b,blk:=λj=>if j<ab.length then γ.blk (ab.getD j 0) else none }
 have rm:∀ j x,σ.aa[ρ j]?=some x->∃ o,bn[j]?=some o/\(o=.gone\/(x=bu ρ o/\γc.blk j=γ.blk (ρ j))):=by
  intro j x hx;obtain⟨hj,hr⟩:=KJ jy (ba.1 hx).1;have ib:j<bn.length:=Ay;have:=o9 j bn[j] (by simp[ib]);refine⟨bn[j],by simp[ib],.inr ⟨?_,?_⟩⟩
  ·have cd:σ.aa[bq σ.aa.length ab j]?=some x:=hx;rw[hr,this]at cd;simpa using cd.symm
  ·show(if j<ab.length then γ.blk (ab.getD j 0) else none)=γ.blk (bq σ.aa.length ab j);rw[if_pos hj,hr]
 have gg:∀ b,γ.Z b->γc.Z b:=λb hb=>.inl hb;have qm:∀ j,Live bn j->Live σ.aa (ab.getD j 0)/\j<ab.length:=by
  rintro j⟨o,ho,hg⟩;have hj:=(ba.1 ho).1;exact⟨⟨_,o9 j o ho,λe=>hg (yo.1 e)⟩,Ay⟩
 have qn:=λ{i b o c}=>h.blt (i:=i) (b:=b) (o:=o) (c:=c);have D9:aZ ⟨λk=>cu.getD k .undef,bn⟩ γc:=by
  refine⟨λk=>?_,?_,?_,?_,?_,λg=>uG (h.gl g) λb hb=>⟨gg b hb,rfl⟩⟩
  ·rcases dD k cu.length with hk|hk
   ·have e:cu.getD k .undef=cu[k]:=by simp[hk]
    show aq bn γc.w γc.Z γc.blk (cu.getD k .undef) _;rw[e];have yr:k<args.length:=Ay;exact(jS k cu[k] args[k] (by simp[hk]) (by simp[yr])).rel h gg rfl (λhs id b o cap cp hl hb=>.inr ⟨hs,id,o,cap,cp,hl,hb⟩) rm _ (D8 k _ (by simp[yr]))
   ·have e:cu.getD k .undef=.undef:=by simp[hk]
    show aq bn γc.w γc.Z γc.blk (cu.getD k .undef) _;rw[e];exact .undef _
  ·intro j o ho;have hj:=(ba.1 ho).1;have yu:j<ab.length:=by rw[<- cS];exact hj
   have bb:=h.dL _ _ (o9 j o ho);have hb:γc.blk j=γ.blk (ab.getD j 0):=by show(if j<ab.length then _ else _)=_;rw[if_pos yu]
   cases o with
   |gone=>trivial
   |var cells =>
    obtain⟨b,cap,cur,t,h1,h2,h3,h4⟩:=bb;exact⟨b,cap,cur,t,hb.trans h1,h2,by simpa using h3,λc v hv=>(h4 c (aU ρ v) (by simp[hv];rfl)).down gg rm v rfl⟩
   |mp ag L =>
    obtain⟨b,f,h1,h2,h3,h4⟩:=bb;refine⟨b,f,hb.trans h1,?_,λp hp=>h3 (p.1,aU ρ p.2) (Aw (f:=λp:List Int×AV=>(p.1,aU ρ p.2)) hp),λj p hp=>(h4 j (p.1,aU ρ p.2) (by simp only[dm,hp];rfl)).down gg rm p.2 rfl⟩;rw[Ea,iS]at h2;exact h2
   |arr sz rows =>
    obtain⟨h0,hr,bb⟩:=bb;refine⟨h0,λrow aP=>by simpa using hr (row.map (aU ρ)) (Aw aP),?_⟩;rcases bb with⟨h1,h2⟩|⟨b,o,cap,cur,t,h1,h2,h3,h4,h5,h6⟩
    ·exact .inl ⟨hb.trans h1,by simpa using h2⟩
    ·refine .inr ⟨b,o,cap,cur,t,hb.trans h1,h2,h3,by simpa using h4,h5,λr c v hv=>(h6 r c (aU ρ v) ?_).down gg rm v rfl⟩;simp only[cellAt,dm]at hv ⊢;cases jW:rows[r]? with
     |none=>simp[jW]at hv
     |some row=>simp[jW]at hv ⊢;exact⟨v,hv,rfl⟩
  ·intro i j b o c o' c' hi hj e9 fe;obtain⟨h1,h2⟩:=qm i hi;obtain⟨h3,h4⟩:=qm j hj;have e1:γc.blk i=γ.blk (ab.getD i 0):=by show(if i<ab.length then _ else _)=_;rw[if_pos h2]
   have e2:γc.blk j=γ.blk (ab.getD j 0):=by show(if j<ab.length then _ else _)=_;rw[if_pos h4]
   exact KK cR h2 h4 (h.inj _ _ b o c o' c' h1 h3 (e1▸e9) (e2▸fe))
  ·rintro b ⟨i,o,c,hi,hb⟩ hz;obtain⟨h1,h2⟩:=qm i hi;have e1:γc.blk i=γ.blk (ab.getD i 0):=by show(if i<ab.length then _ else _)=_;rw[if_pos h2]
   rw[e1]at hb;rcases hz with hz|⟨_,id,o',cap',cp,hl,bS⟩
   ·exact h.nz b ⟨_,o,c,h1,hb⟩ hz
   ·have:=h.inj _ _ b o c o' cap' h1 hl hb bS;exact cp (this▸aG h2)
  ·rintro b (hb|⟨_,id,o,cap,_,hl,hb⟩)
   ·exact h.fG b hb
   ·exact qn hl hb
 have dX:=hH.2 γc (by show argv.size=_;omega) D9;refine dX.mono ?_;rintro e w'⟨res,bY,cv,av,DR,rfl,rfl,Eb,fS,eB⟩;obtain⟨KL,hK⟩:=Tm res bY DR;have Tn:ab.length<=bY.length:=by have:=eB.len;omega
 let new:=bY.map (bu ρ)
 have an:ab.length<=new.length:=by simpa [new] using Tn
 let lS:=dU σ.aa ab new
 let gf:Cx:={ w:=av.w,tmps:=γ.tmps,Z:=λb=>av.Z b/\¬ S b,blk:=λi=>if i<σ.aa.length then γ.blk i else av.blk (ab.length+(i-σ.aa.length)) }
 have yv:∀ j o,bY[j]?=some o->lS[ρ j]?=some (bu ρ o)/\(o≠.gone->gf.blk (ρ j)=av.blk j):=by
  intro j o ho;by_cases hj:j<ab.length
  ·have e:ρ j=ab.getD j 0:=by show bq _ _ _=_;simp only[bq];rw[if_pos hj]
   have eh:=jy _ (aG hj);refine⟨?_,λhg=>?_⟩
   ·rw[e];show(dU σ.aa ab new)[ab.getD j 0]?=_;rw[Bh ab σ.aa new an cR jy j hj];simp[new,ho]
   ·rw[e];show(if ab.getD j 0<σ.aa.length then _ else _)=_;rw[if_pos eh];have:=(eB.iH j Ay ⟨o,ho,hg⟩).1;rw[this];show _=if j<ab.length then _ else _;rw[if_pos hj]
  ·have e:ρ j=σ.aa.length+(j-ab.length):=by show bq _ _ _=_;simp only[bq];rw[if_neg hj]
   have e2:ab.length+(j-ab.length)=j:=Ay;refine⟨?_,λhg=>?_⟩
   ·rw[e];show(dU σ.aa ab new)[_]?=_;rw[KC ab σ.aa new an,e2];simp[new,ho]
   ·rw[e];show(if σ.aa.length+(j-ab.length)<σ.aa.length then _ else av.blk (ab.length+(σ.aa.length+(j-ab.length)-σ.aa.length)))=_;rw[if_neg Ay];congr 1;omega
 have KM:∀ b,S b->¬ γ.Z b:=by
  rintro b⟨_,id,o,cap,_,hl,hb⟩;exact h.nz b ⟨id,o,cap,hl,hb⟩
 have wx:∀ b,lT bn γc.blk b->∃ i∈ab,∃ o cap,Live σ.aa i/\γ.blk i=some (b,o,cap):=by
  rintro b⟨j,o,c,hl,hb⟩;obtain⟨h1,h2⟩:=qm j hl;have e1:γc.blk j=γ.blk (ab.getD j 0):=by show(if j<ab.length then _ else _)=_;rw[if_pos h2]
  exact⟨_,aG h2,o,c,h1,e1▸hb⟩
 have To:∀ i,i ∉ ab->Live σ.aa i->∀ b o c,γ.blk i=some (b,o,c)->av.w.heap[b]?=γ.w.heap[b]?:=by
  intro i hi hl b o c hb;refine eB.cO b (qn hl hb) (λho=>?_);obtain⟨i',hi',o',c',iw,bS⟩:=wx b ho;have:=h.inj _ _ b o c o' c' hl iw hb bS;exact hi (this▸hi')
 have Ec:∀ v cv,aq σ.aa γ.w γ.Z γ.blk v cv->aq lS gf.w gf.Z gf.blk v cv:=by
  intro v cv hv;refine hv.mono (λb hb=>⟨⟨eB.z0 b (gg b hb),λhs=>KM b hs hb⟩,?_⟩) (λi o ho=>?_)
  ·refine eB.cO b (h.fG b hb) (λho=>?_);obtain⟨i',_,o',c',iw,bS⟩:=wx b ho;exact h.nz b ⟨i',o',c',iw,bS⟩ hb
  ·have hi:=(ba.1 ho).1;have eD:gf.blk i=γ.blk i:=by show(if i<σ.aa.length then _ else _)=_;rw[if_pos hi]
   by_cases kH:i∈ab
   ·obtain⟨j,hj,rfl⟩:=Bk kH;have ib:j<bY.length:=Ay;have uO:lS[ab.getD j 0]?=some (bu ρ bY[j]):=by
     show(dU σ.aa ab new)[ab.getD j 0]?=_;rw[Bh ab σ.aa new an cR jy j hj];simp[new,ib]
    by_cases hg:bY[j]=.gone
    ·left;rw[uO,hg];rfl
    ·right;refine⟨eD,_,uO,?_⟩;obtain⟨_,x,x',hx,cd,pc⟩:=eB.iH j Ay ⟨bY[j],by simp[ib],hg⟩;have e1:bY[j]=x':=by simpa [ib] using cd
     have e2:=o9 j x hx;rw[ho]at e2;simp at e2;rw[e1,e2];exact Ob.Ti pc
   ·have uO:lS[i]?=some o:=by
     show(dU σ.aa ab new)[i]?=_;rw[Bi ab σ.aa new an i kH hi];exact ho
    by_cases hg:o=.gone
    ·subst hg;exact .inl uO
    ·exact .inr ⟨eD,o,uO,Ob.gV hg⟩
 have Bl:∀ v cv,aq bY av.w av.Z av.blk v cv->(snap=true->flat v=true)->aq lS gf.w gf.Z gf.blk (aU ρ v) cv:=by
  intro v cv hv fV;by_cases kj:snap=true
  ·exact(hv.Th (Z':=gf.Z) (fV kj)).up (λb hb=>hb) yv
  ·exact hv.up (λb hb=>⟨hb,λhs=>kj hs.1⟩) yv
 have iK:∀ i,Live lS i->(i<σ.aa.length/\i ∉ ab/\Live σ.aa i/\gf.blk i=γ.blk i)\/∃ j,Live bY j/\i=ρ j/\gf.blk i=av.blk j:=by
  rintro i⟨o,ho,hg⟩;have hlen:=(ba.1 ho).1;have iJ:lS.length=σ.aa.length+(new.length-ab.length):=D0 ab σ.aa new an;have KN:new.length=bY.length:=by simp[new]
  rcases dD i σ.aa.length with hi|hi
  ·by_cases kH:i∈ab
   ·right;obtain⟨j,hj,rfl⟩:=Bk kH;have ib:j<bY.length:=Ay;have e:ρ j=ab.getD j 0:=by show bq _ _ _=_;simp only[bq];rw[if_pos hj]
    have hx:=yv j bY[j] (by simp[ib]);rw[e]at hx;rw[ho]at hx;simp only[dv.injEq]at hx;have bp:bY[j]≠.gone:=by intro h0;apply hg;rw[hx.1,h0];rfl
    exact⟨j,⟨_,by simp[ib],bp⟩,e.symm,hx.2 bp⟩
   ·left;have:lS[i]?=σ.aa[i]?:=Bi ab σ.aa new an i kH hi;rw[this]at ho;exact⟨hi,kH,⟨o,ho,hg⟩,by show(if i<σ.aa.length then _ else _)=_;rw[if_pos hi]⟩
  ·right;have ib:ab.length+(i-σ.aa.length)<bY.length:=Ay;have e:ρ (ab.length+(i-σ.aa.length))=i:=by
    show bq _ _ _=_;simp only[bq];rw[if_neg Ay];omega
   have hx:=yv _ _ (show bY[ab.length+(i-σ.aa.length)]?=some bY[ab.length+(i-σ.aa.length)] by simp[ib]);rw[e]at hx;rw[ho]at hx;simp only[dv.injEq]at hx;have bp:bY[ab.length+(i-σ.aa.length)]≠.gone:=by intro h0;apply hg;rw[hx.1,h0];rfl
   exact⟨_,⟨_,by simp[ib],bp⟩,e.symm,hx.2 bp⟩
 have Ed:∀ j b o c,Live bY j->av.blk j=some (b,o,c)->(∃ i∈ab,∃ o cap,Live σ.aa i/\γ.blk i=some (b,o,cap))\/γ.w.heap.size<=b:=by
  intro j b o c hl hb;rcases eB.own b ⟨j,o,c,hl,hb⟩ with h1|h1
  ·exact .inl (wx b h1)
  ·exact .inr h1
 have Tp:aZ ⟨σ.env,lS⟩ gf:=by
  refine⟨λk=>Ec _ _ (h.au k),?_,?_,?_,?_,λg=>Ec _ _ (h.gl g)⟩
  ·intro i o ho;by_cases bX:o=.gone
   ·subst bX;trivial
   rcases iK i ⟨o,ho,bX⟩ with⟨hi,kH,hl,eD⟩|⟨j,⟨x,hx,dY⟩,rfl,eD⟩
   ·have he:lS[i]?=σ.aa[i]?:=Bi ab σ.aa new an i kH hi;have cz:σ.aa[i]?=some o:=by rw[<- he];exact ho
    exact(h.dL i o cz).mono Ec eD (λb o c hb=>To i kH hl b o c hb)
   ·have yw:=(yv j x hx).1;have e:o=bu ρ x:=by
     have:lS[ρ j]?=some o:=ho;rw[yw]at this;simpa using this.symm
    subst e;have bb:=fS.dL j x hx;have fV:snap=true->A3 x:=λhs=>(KL hs).2 x (fB hx);cases x with
    |gone=>trivial
    |var cells =>
     obtain⟨b,cap,cur,t,h1,h2,h3,h4⟩:=bb;refine⟨b,cap,cur,t,eD.trans h1,h2,by simpa using h3,λc v hv=>?_⟩;simp only[dm,ud]at hv;obtain⟨y,hy,rfl⟩:=hv;exact Bl _ _ (h4 c y hy) (λhs=>fV hs y (fB hy))
    |mp ag L =>
     obtain⟨b,f,h1,h2,h3,h4⟩:=bb;refine⟨b,f,eD.trans h1,?_,λp hp=>?_,λj p hp=>?_⟩
     ·rw[Ea,iS];exact h2
     ·obtain⟨y,hy,rfl⟩:=cN.1 hp;exact h3 y hy
     ·simp only[dm,ud]at hp;obtain⟨y,hy,rfl⟩:=hp;exact Bl _ _ (h4 j y hy) (λhs=>fV hs y (fB hy))
    |arr sz rows =>
     obtain⟨h0,hr,bb⟩:=bb;refine⟨h0,?_,?_⟩
     ·intro row aP;simp only[cN]at aP;obtain⟨y,hy,rfl⟩:=aP;simpa using hr y hy
     ·rcases bb with⟨h1,h2⟩|⟨b,o,cap,cur,t,h1,h2,h3,h4,h5,h6⟩
      ·exact .inl ⟨eD.trans h1,by simpa using h2⟩
      ·refine .inr ⟨b,o,cap,cur,t,eD.trans h1,h2,h3,by simpa using h4,h5,λr c v hv=>?_⟩;simp only[cellAt,dm]at hv;cases jW:rows[r]? with
       |none=>simp[jW]at hv
       |some row =>
        simp only[jW,g9,Option.bind_some,dm,ud]at hv;obtain⟨y,hy,rfl⟩:=hv;exact Bl _ _ (h6 r c y (by simp[cellAt,jW,hy])) (λhs=>fV hs row (fB jW) y (fB hy))
  ·intro i j b o c o' c' hi hj e9 fe;rcases iK i hi with⟨pd,kH,od,eD⟩|⟨ji,dI,rfl,eD⟩<;>rcases iK j hj with⟨gR,yu,Bm,yx⟩|⟨jj,KO,rfl,yx⟩
   ·exact h.inj i j b o c o' c' od Bm (eD▸e9) (yx▸fe)
   ·rw[eD]at e9;rw[yx]at fe;rcases Ed jj b o' c' KO fe with⟨i',hi',o1,c1,iw,bS⟩|gU
    ·exact absurd (h.inj i i' b o c o1 c1 od iw e9 bS) (λe=>kH (e▸hi'))
    ·have:=qn od e9;omega
   ·rw[eD]at e9;rw[yx]at fe;rcases Ed ji b o c dI e9 with⟨i',hi',o1,c1,iw,bS⟩|gU
    ·exact absurd (h.inj j i' b o' c' o1 c1 Bm iw fe bS) (λe=>yu (e▸hi'))
    ·have:=qn Bm fe;omega
   ·rw[eD]at e9;rw[yx]at fe;rw[fS.inj ji jj b o c o' c' dI KO e9 fe]
  ·rintro b ⟨i,o,c,hi,hb⟩ ⟨hz,Ee⟩;rcases iK i hi with⟨pd,kH,od,eD⟩|⟨ji,dI,rfl,eD⟩
   ·rw[eD]at hb;rcases eB.z1 b hz with(h1|h1)|h1|h1
    ·exact h.nz b ⟨i,o,c,od,hb⟩ h1
    ·exact Ee h1
    ·obtain⟨i',hi',o1,c1,iw,bS⟩:=wx b h1;exact kH ((h.inj i i' b o c o1 c1 od iw hb bS)▸hi')
    ·have:=qn od hb;have pe:γ.w.heap.size<=b:=h1;omega
   ·rw[eD]at hb;exact fS.nz b ⟨ji,o,c,dI,hb⟩ hz
  ·rintro b ⟨hz,_⟩;exact fS.fG b hz
 refine⟨cv,aU ρ res,⟨σ.env,lS⟩,gf,rfl,rfl,rfl,Tp,?_,?_,hK,rfl⟩
 ·refine⟨eB.jT,eB.tape,eB.output,eB.size,?_,?_,?_,?_,?_,?_⟩
  ·intro b hb jX;refine eB.cO b hb (λho=>jX ?_);obtain⟨i',_,o1,c1,iw,bS⟩:=wx b ho;exact⟨i',o1,c1,iw,bS⟩
  ·intro b hb;exact⟨eB.z0 b (gg b hb),λhs=>KM b hs hb⟩
  ·rintro b ⟨hz,Ee⟩;rcases eB.z1 b hz with(h1|h1)|h1|h1
   ·exact .inl h1
   ·exact absurd h1 Ee
   ·obtain⟨i',_,o1,c1,iw,bS⟩:=wx b h1;exact .inr (.inl ⟨i',o1,c1,iw,bS⟩)
   ·exact .inr (.inr h1)
  ·rintro b ⟨i,o,c,hi,hb⟩;rcases iK i hi with⟨pd,kH,od,eD⟩|⟨ji,dI,rfl,eD⟩
   ·rw[eD]at hb;exact .inl ⟨i,o,c,od,hb⟩
   ·rw[eD]at hb;rcases Ed ji b o c dI hb with⟨i',_,o1,c1,iw,bS⟩|gU
    ·exact .inl ⟨i',o1,c1,iw,bS⟩
    ·exact .inr gU
  ·show σ.aa.length<=(dU σ.aa ab new).length;rw[D0 ab σ.aa new an];omega
  ·rintro i hi ⟨o,ho,hg⟩;refine⟨by show(if i<σ.aa.length then _ else _)=_;rw[if_pos hi],?_⟩;by_cases kH:i∈ab
   ·obtain⟨j,hj,rfl⟩:=Bk kH;have ib:j<bY.length:=Ay;have uO:lS[ab.getD j 0]?=some (bu ρ bY[j]):=by
     show(dU σ.aa ab new)[ab.getD j 0]?=_;rw[Bh ab σ.aa new an cR jy j hj];simp[new,ib]
    have cY:lS[ab.getD j 0]?=some o:=ho;rw[uO]at cY;simp only[dv.injEq]at cY;have bp:bY[j]≠.gone:=by intro h0;apply hg;rw[<- cY,h0];rfl
    obtain⟨_,x,x',hx,cd,pc⟩:=eB.iH j Ay ⟨bY[j],by simp[ib],bp⟩;have e1:bY[j]=x':=by simpa [ib] using cd
    refine⟨bu ρ x,o,o9 j x hx,ho,?_⟩;rw[<- cY,e1];cases x<;>cases x'<;>simp_all [Ob.db,bu]
   ·have he:lS[i]?=σ.aa[i]?:=Bi ab σ.aa new an i kH hi;have cz:σ.aa[i]?=some o:=by rw[<- he];exact ho
    exact⟨o,o,cz,ho,Ob.gV hg⟩
 ·have:=fS.au 0;rw[Eb]at this;exact Bl res cv (by simpa using this) (λhs=>(KL hs).1)
def ao.r{f:FuncId}{args:List AV}{aa:List Ob}{res:AV}{aY:List Ob}(h:ao P f args aa res aY):eM P f args aa (λr os=>r=res/\os=aY) :=
 ⟨h.1,λγ aE hs=>(h.2 γ aE hs).mono λ_ _ ⟨cv,av,h1,h2,h3,h4,h5⟩=>⟨res,aY,cv,av,⟨rfl,rfl⟩,h1,h2,h3,h4,h5⟩⟩
def Bj.r{f:FuncId}{args:List AV}{σ:St}{K:AV->St->Prop}(h:Bj P f args σ K):DS P f args σ K:=by
 obtain⟨ab,snap,cu,bn,res,bY,h1,⟨h2,h3,h4,h5,h6,h7⟩,h8⟩:=h;exact⟨ab,snap,cu,bn,_,h1.r,⟨h2,h3,h4,h5,h6⟩,λr os ⟨e1,e2⟩=>by subst e1;subst e2;exact⟨h7,h8⟩⟩
def KP{σ:St}{γ:Cx}(h:aZ σ γ){f:FuncId}{args:List AV}{argv:Array Value}(aE:argv.size=args.length)(D8:∀ (j:Nat) d,args[j]?=some d->aq σ.aa γ.w γ.Z γ.blk d (argv.getD j Go.undef)){K:AV->St->Prop}(hc:Bj P f args σ K):
  Calls P f argv γ.w (λe w'=>∃ cv v σ' av,e=.returned cv/\av.w=w'/\av.tmps=γ.tmps/\aZ σ' av/\Fr σ.aa γ σ'.aa av/\aq σ'.aa av.w av.Z av.blk v cv/\K v σ'/\σ'.env=σ.env) :=
 DU h aE D8 hc.r
end Go.Am
namespace Go.Am
variable {P:Program}
def aZ.select{σ:St}{γ:Cx}(h:aZ σ γ)(ab:List Nat)(snap:Bool)(bn:List Ob)(cR:ab.Nodup)(cS:bn.length=ab.length)(o9:∀ (j:Nat) o,bn[j]?=some o->o=.gone\/σ.aa[ab.getD j 0]?=some (bu (bq σ.aa.length ab) o))(jy:∀ i∈ab,i<σ.aa.length)(e:Nat->AV)(tm:Array Value)(he:∀ k,e k=.undef\/∃ d,a9 σ (λid=>∃ j,j<ab.length/\ab.getD j 0=id/\bn[j]?≠some .gone) (bq σ.aa.length ab) snap (e k) d/\aq σ.aa γ.w γ.Z γ.blk d (tm.getD k Go.undef)):
  ∃ av,av.w=γ.w/\av.tmps=tm/\aZ ⟨e,bn⟩ av/\((∀ i,i<bn.length->av.blk i=γ.blk (ab.getD i 0))/\(∀ b,γ.Z b->av.Z b)/\(∀ b,av.Z b->γ.Z b\/lT σ.aa γ.blk b) /\
   ∀ i,Live bn i->Live σ.aa (ab.getD i 0)/\∃ o,bn[i]?=some o/\σ.aa[ab.getD i 0]?=some (bu (bq σ.aa.length ab) o)):=by
 let ρ:=bq σ.aa.length ab
 let kp:Nat->Prop:=λid=>∃ j,j<ab.length/\ab.getD j 0=id/\bn[j]?≠some .gone
 let S:Nat->Prop:=λb=>snap=true/\∃ id o cap,¬ kp id/\Live σ.aa id/\γ.blk id=some (b,o,cap)
 let γc:Cx:={ w:=γ.w,tmps:=tm,Z:=λb=>γ.Z b\/S b,blk:=λj=>if j<ab.length then γ.blk (ab.getD j 0) else none }
 have rm:∀ j x,σ.aa[ρ j]?=some x->∃ o,bn[j]?=some o/\(o=.gone\/(x=bu ρ o/\γc.blk j=γ.blk (ρ j))):=by
  intro j x hx;obtain⟨hj,hr⟩:=KJ jy (ba.1 hx).1;have ib:j<bn.length:=Ay;refine⟨bn[j],by simp[ib],?_⟩;rcases o9 j bn[j] (by simp[ib]) with hg|this
  ·exact .inl hg
  ·right;refine⟨?_,?_⟩
   ·have cd:σ.aa[bq σ.aa.length ab j]?=some x:=hx;rw[hr,this]at cd;simpa using cd.symm
   ·show(if j<ab.length then γ.blk (ab.getD j 0) else none)=γ.blk (bq σ.aa.length ab j);rw[if_pos hj,hr]
 have gg:∀ b,γ.Z b->γc.Z b:=λb hb=>.inl hb;have qm:∀ j,Live bn j->Live σ.aa (ab.getD j 0)/\j<ab.length/\kp (ab.getD j 0)/\∃ o,bn[j]?=some o/\σ.aa[ab.getD j 0]?=some (bu ρ o):=by
  rintro j⟨o,ho,hg⟩;have hj:=(ba.1 ho).1;rcases o9 j o ho with h'|h'
  ·exact absurd h' hg
  ·exact⟨⟨_,h',λe=>hg (yo.1 e)⟩,Ay,⟨j,Ay,rfl,by rw[ho];simpa using hg⟩,o,ho,h'⟩
 have ni:∀ j,j<ab.length->γc.blk j=γ.blk (ab.getD j 0):=λj hj=>by show(if j<ab.length then _ else _)=_;rw[if_pos hj]
 have D9:aZ ⟨e,bn⟩ γc:=by
  refine⟨λk=>?_,?_,?_,?_,?_,λg=>uG (h.gl g) λb hb=>⟨gg b hb,rfl⟩⟩
  ·rcases he k with h0|⟨d,hd,hr⟩
   ·show aq bn γc.w γc.Z γc.blk (e k) _;rw[h0];exact .undef _
   ·exact hd.rel h gg rfl (λhs id b o cap cp hl hb=>.inr ⟨hs,id,o,cap,cp,hl,hb⟩) rm _ hr
  ·intro j o ho;by_cases bX:o=.gone
   ·subst bX;trivial
   obtain⟨_,yu,_,o',cz,Tq⟩:=qm j ⟨o,ho,bX⟩;have:o=o':=by
    have h1:bn[j]?=some o:=ho;rw[cz]at h1;simpa using h1.symm
   subst this;have bb:=h.dL _ _ Tq;have hb:=ni j yu;cases o with
   |gone=>trivial
   |var cells =>
    obtain⟨b,cap,cur,t,h1,h2,h3,h4⟩:=bb;exact⟨b,cap,cur,t,hb.trans h1,h2,by simpa using h3,λc v hv=>(h4 c (aU ρ v) (by simp only[dm,hv];rfl)).down gg rm v rfl⟩
   |mp ag L =>
    obtain⟨b,f,h1,h2,h3,h4⟩:=bb;refine⟨b,f,hb.trans h1,?_,λp hp=>h3 (p.1,aU ρ p.2) (Aw (f:=λp:List Int×AV=>(p.1,aU ρ p.2)) hp),λj p hp=>(h4 j (p.1,aU ρ p.2) (by simp only[dm,hp];rfl)).down gg rm p.2 rfl⟩;rw[Ea,iS]at h2;exact h2
   |arr sz rows =>
    obtain⟨h0,hr,bb⟩:=bb;refine⟨h0,λrow aP=>by simpa using hr (row.map (aU ρ)) (Aw aP),?_⟩;rcases bb with⟨h1,h2⟩|⟨b,o,cap,cur,t,h1,h2,h3,h4,h5,h6⟩
    ·exact .inl ⟨hb.trans h1,by simpa using h2⟩
    ·refine .inr ⟨b,o,cap,cur,t,hb.trans h1,h2,h3,by simpa using h4,h5,λr c v hv=>(h6 r c (aU ρ v) ?_).down gg rm v rfl⟩;simp only[cellAt,dm]at hv ⊢;cases jW:rows[r]? with
     |none=>simp[jW]at hv
     |some row=>simp[jW]at hv ⊢;exact⟨v,hv,rfl⟩
  ·intro i j b o c o' c' hi hj e9 fe;obtain⟨h1,h2,_⟩:=qm i hi;obtain⟨h3,h4,_⟩:=qm j hj;exact KK cR h2 h4 (h.inj _ _ b o c o' c' h1 h3 (ni i h2▸e9) (ni j h4▸fe))
  ·rintro b ⟨i,o,c,hi,hb⟩ hz;obtain⟨h1,h2,h3,_⟩:=qm i hi;rw[ni i h2]at hb;rcases hz with hz|⟨_,id,o',cap',cp,hl,bS⟩
   ·exact h.nz b ⟨_,o,c,h1,hb⟩ hz
   ·have:=h.inj _ _ b o c o' cap' h1 hl hb bS;exact cp (this▸h3)
  ·rintro b (hb|⟨_,id,o,cap,_,hl,hb⟩)
   ·exact h.fG b hb
   ·exact h.blt hl hb
 refine⟨γc,rfl,rfl,D9,λi hi=>ni i Ay,gg,?_,?_⟩
 ·rintro b (hb|⟨_,id,o,cap,_,hl,hb⟩)
  ·exact .inl hb
  ·exact .inr ⟨id,o,cap,hl,hb⟩
 ·intro i hi;obtain⟨h1,h2,_,h4⟩:=qm i hi;exact⟨h1,h4⟩
def Ob.Tr{ρ:Nat->Nat}{x o:Ob}(h:x.db (bu ρ o)):x.db o:=by
 cases x<;>cases o<;>simp[Ob.db,bu]at h ⊢<;>exact h
def Fr.select{os:List Ob}{γ0 γ av:Cx}{σ:St}(hf:Fr os γ0 σ.aa γ){ab:List Nat}{bn:List Ob}(hn:os.length<=ab.length)(cS:bn.length=ab.length)(cp:∀ i,i<os.length->ab.getD i 0=i)(hw:av.w=γ.w)(h:(∀ i,i<bn.length->av.blk i=γ.blk (ab.getD i 0))/\(∀ b,γ.Z b->av.Z b)/\(∀ b,av.Z b->γ.Z b\/lT σ.aa γ.blk b) /\
   ∀ i,Live bn i->Live σ.aa (ab.getD i 0)/\∃ o,bn[i]?=some o/\σ.aa[ab.getD i 0]?=some (bu (bq σ.aa.length ab) o)):Fr os γ0 bn av:=by
 obtain⟨h1,h2,h3,h4⟩:=h;refine⟨by rw[hw];exact hf.jT,by rw[hw];exact hf.tape,by rw[hw];exact hf.output,by rw[hw];exact hf.size,by rw[hw];exact hf.cO,λb hb=>h2 b (hf.z0 b hb),?_,?_,Ay,?_⟩
 ·intro b hb;rcases h3 b hb with h|h
  ·exact hf.z1 b h
  ·rcases hf.own b h with h|h
   ·exact .inr (.inl h)
   ·exact .inr (.inr h)
 ·rintro b ⟨i,o,c,hi,hb⟩;have bw:=hi.lt;rw[h1 i bw]at hb;exact hf.own b ⟨_,o,c,(h4 i hi).1,hb⟩
 ·intro i hi hl;obtain⟨h5,o,ho,cz⟩:=h4 i hl;rw[cp i hi]at h5 cz;obtain⟨h6,x,x',hx,cd,hk⟩:=hf.iH i hi h5;refine⟨by rw[h1 i hl.lt,cp i hi];exact h6,x,o,hx,ho,?_⟩;rw[cz]at cd;simp only[dv.injEq]at cd;rw[<- cd]at hk;exact Ob.Tr hk
def dM(N:Nat)(os:List Ob)(γ0:Cx)(σ:St)(a:Act)(w:World):Prop :=
 a.defers=[]/\a.tmps.size=N/\∃ γ,γ.w=w/\γ.tmps=a.tmps/\aZ σ γ/\Fr os γ0 σ.aa γ
def W(P:Program)(N n0:Nat)(c:Code)(Q:Exit->St->Prop)(σ:St):Prop :=
 ∀ (os:List Ob) (γ0:Cx) (a:Act) (w:World),os.length=n0->dM N os γ0 σ a w->c.wp P (λe a' w'=>∃ σ',Q e σ'/\dM N os γ0 σ' a' w') a w
def nX(P:Program)(g:FuncId)(args:List AV)(dst:Option Tmp)(K:St->Prop)(σ:St):Prop:=Bj P g args σ λv σ'=>K (σ'.put dst v)
def A1(P:Program)(t:TypeId)(m:String):Option (FuncId×Option TypeId) :=
 match P.info? t with
 |none=>none
 |some i =>
  match i.methods.find? (·.name==m) with
  |none=>none
  |some r =>
   match r.path.isEmpty,r.func,P.underlying t with
   |true,some (g,pr),some (.pointer e)=>some (g,if pr then none else some e)
   |_,_,_=>none
def lF(P:Program)(σ:St)(v:AV)(K:FuncId->AV->Prop):Option (FuncId×Option TypeId)->Prop
 |some (g,none)=>K g v
 |some (g,some e) =>
  (ty P e).kind≠99 /\
  match v with
  |.ptr id r c =>
   match rowOf σ id r with
   |some row=>jM (ty P e) row c λx=>K g x
   |none=>False
  |_=>False
 |none=>False
def aR(P:Program)(o:Oper)(σ:St)(K:St->Prop):Prop :=
 match o.op with
 |.call { callee:=.value f,args,.. } =>
  match ev σ f with
  |.fn g bB=>nX P g (args.toList.map (ev σ)++bB) o.dst K σ
  |_=>False
 |.call { callee:=.invoke r m,args,.. } =>
  match ev σ r with
  |.fj t v=>lF P σ v (λg x=>nX P g (x::args.toList.map (ev σ)) o.dst K σ) (A1 P t m)
  |_=>False
 |_=>bF P o σ K
def lg(P:Program)(o:Oper)(K:St->Prop)(b want:Bool)(σ:St):Prop:=(b=want->aR P o σ K)/\(b≠want->K (σ.put o.dst (.lit (.tuple #[]))))
def opsL(P:Program)(ops:Array Oper):List Oper->(St->Prop)->St->Prop
 |[],K,σ=>K σ
 |o::r,K,σ =>
  match o.guard with
  |none=>aR P o σ (opsL P ops r K)
  |some (j,want) =>
   match (ops[j]?).bind (·.dst) with
   |none=>False
   |some d =>
    match σ.env d with
    |.lit (.bool b)=>lg P o (opsL P ops r K) b want σ
    |.lit (.tuple vs)=>vs = #[]/\opsL P ops r K (σ.put o.dst (.lit (.tuple #[])))
    |_=>False
def nf(a:Act)(d:Option Tmp)(v:Value):(a.put d v).tmps.size=a.tmps.size:=by cases d<;>simp[Act.put]
def put_defers(a:Act)(d:Option Tmp)(v:Value):(a.put d v).defers=a.defers:=by cases d<;>rfl
def Ts(xt:TypeId)(a:Addr)(x y:String):Builtin.ssaWrapNilChk_ #[xt] xt #[.pointer (some a),strVal x,strVal y]=pure (.pointer (some a)):=rfl
def KQ{w:World}{t:TypeId}{i:TypeInfo}(h:P.info? t=some i):(typeInfo t).run P w=.ok i w:=by
 simp[typeInfo,h]
def ext1(x:Value)(A:Array Value):(#[x]++A).extract 1 (#[x]++A).size=A:=by
 apply Array.ext';simp only[Array.toList_extract,List.extract,vQ,Array.size_append];simp[List.take_of_length_le]
def Tt{σ:St}{γ:Cx}(hs:aZ σ γ){t:TypeId}{m:String}{v:AV}{cv:Value}(hv:aq σ.aa γ.w γ.Z γ.blk v cv){K:FuncId->AV->Prop}(h:lF P σ v K (A1 P t m)):
  ∃ g x cx,(Go.method (P.types.size+Made.depth) t cv m).run P γ.w=.ok (g,cx) γ.w/\aq σ.aa γ.w γ.Z γ.blk x cx/\K g x:=by
 obtain⟨fu,Tu⟩:∃fu,P.types.size+Made.depth=fu+1:=Nat.exists_eq_succ_of_ne_zero (by unfold Made.depth;omega);rw[Tu];unfold Go.method;unfold A1 at h;cases hi:P.info? t with
 |none=>simp[hi,lF]at h
 |some i =>
  simp only[hi]at h;cases hf:i.methods.find? (·.name==m) with
  |none=>simp[hf,lF]at h
  |some r =>
   simp only[hf]at h;split at h
   ·rename_i g pr e hp hr hu;have KR:r.path = #[]:=Array.isEmpty_iff.1 hp;cases pr with
    |true =>
     simp only[if_pos,lF]at h;refine⟨g,v,cv,?_,hv,h⟩;simp[KQ hi,hf,KR,follow,hr,receiverAt,run_underlying hu,Place.get]
    |false =>
     simp only[if_neg,Bool.false_eq_true,not_false_eq_true,lF]at h;obtain⟨hk,h⟩:=h;cases v with
     |ptr id rr c =>
      simp only at h;cases aP:rowOf σ id rr with
      |none=>simp[aP]at h
      |some row =>
       simp only[aP]at h;obtain⟨x,cx,h1,h2,h3⟩:=Ef hs hk hv aP h;refine⟨g,x,cx,?_,h2,h3⟩;obtain⟨b,base,cap,cur,tt,o,rfl,_⟩:=Bn hs hv aP;simp only[Instr.loadAt,Instr.sureAddr,Sem.run_bind,Sem.run_pure,Result.andThen_ok]at h1;simp[KQ hi,hf,KR,follow,hr,receiverAt,run_underlying hu,Place.get,Ts,asAddr,h1]
     |_=>exact h.elim
   ·exact h.elim
def uu{N:Nat}{os:List Ob}{γ0:Cx}{o:Oper}{σ:St}{K:St->Prop}(h:aR P o σ K){a:Act}{w:World}(aV:dM N os γ0 σ a w)(hd:∀ d,o.dst=some d->d<N){Q:Exit->Act->World->Prop}{next:Act->World->Prop}(hn:∀ σ' a' w',K σ'->dM N os γ0 σ' a' w'->next a' w'):o.wp P a w next Q:=by
 obtain⟨e8,aE,γ,rfl,ha,hs,hf⟩:=aV;have lG:∀ d,o.dst=some d->d<a.tmps.size:=λd h=>by rw[aE];exact hd d h
 have Tv:bF P o σ K->o.wp P a γ.w next Q:=by
  intro h;obtain⟨n,x,w',σ',av,hr,fC,hK,fS,eB,rn,fv⟩:=Tx h hs ha lG;unfold Oper.wp;rw[hr];have cW:dM N os γ0 σ' (a.put o.dst x) w':=⟨by rw[put_defers];exact e8,by rw[nf];exact aE,av,rn,fv,fS,hf.trans eB⟩;rcases fC with rfl|⟨rfl,rfl⟩
  ·exact hn _ _ _ hK cW
  ·exact hn _ _ _ hK cW
 unfold aR at h;split at h
 ·rename_i f args dV cG;split at h
  ·rename_i g bB he;have fI:=mz hs ha f;rw[he]at fI;obtain⟨aI,aW,kg,iU⟩:=fI.DT;have jS:∀ (j:Nat) d,(args.toList.map (ev σ)++bB)[j]?=some d->aq σ.aa γ.w γ.Z γ.blk d (((args.map a.eval)++aI).getD j Go.undef):=by
    intro j d hj;simp only[dC];rcases dD j args.size with bw|gU
    ·rw[cr (by simpa using bw)]at hj;rw[xJ (by simpa using bw)];simp only[dm,vR,G9]at hj ⊢;cases hx:args[j]? with
     |none=>simp[hx]at hj
     |some y=>simp[hx]at hj ⊢;subst hj;exact mz hs ha y
    ·rw[dS (by simpa using gU)]at hj;rw[G' (by simpa using gU)];simp only[iS,Array.length_toList,Array.size_map]at hj ⊢;have:=iU _ d hj;simpa [dC] using this
   unfold nX at h;have dX:=KP hs (argv:=(args.map a.eval)++aI) (by simp[kg]) jS h;obtain⟨ab,snap,cu,bn,res,bY,⟨⟨fn,hfn,lJ,oX⟩,_⟩,_⟩:=h;unfold Oper.wp;have hr:(execOp a.eval o).run P γ.w=.ok (.enter g ((args.map a.eval)++aI)) γ.w:=by
    have lM : ¬ fn.name = "runtime.NumGoroutine" := by simpa using lJ
    have iV:¬ fn.body=none:=by intro e;rw[e]at oX;simp at oX
    simp[execOp,cG,resolve,aW,Deferred.ofValue,invoke,callFunc,hfn,lM,iV]
   rw[hr];show Calls P g _ _ _;refine dX.mono ?_;rintro e w'⟨cv,v,σ',av,rfl,rfl,fv,fS,eB,hv,hK,rh⟩;refine hn _ _ _ hK ⟨by rw[put_defers];exact e8,by rw[nf];exact aE,{ av with tmps:=(a.put o.dst cv).tmps },rfl,rfl,mA fS (by rw[fv,ha]) lG hv,?_⟩;rw[mB];exact(hf.trans eB).put _
  ·exact h.elim
 ·rename_i r m args dV cG;split at h
  ·rename_i t v he;have fI:=mz hs ha r;rw[he]at fI;obtain⟨Bo,aW,iU⟩:=fI.KS;obtain⟨g,x,cx,hm,hx,h⟩:=Tt hs iU h;have jS:∀ (j:Nat) d,(x::args.toList.map (ev σ))[j]?=some d->aq σ.aa γ.w γ.Z γ.blk d ((#[cx]++args.map a.eval).getD j Go.undef):=by
    intro j d hj;simp only[dC];cases j with
    |zero =>
     simp only[sE,dv.injEq]at hj;subst hj;rw[xJ Dg];simpa using hx
    |succ j =>
     simp only[Dk,dm,vR]at hj;rw[G' Dg];simp only[List.size_toArray,cK,List.length_nil,Nat.zero_add,Nat.add_sub_cancel,G9];cases hy:args[j]? with
     |none=>simp[hy]at hj
     |some y=>simp[hy]at hj ⊢;subst hj;exact mz hs ha y
   unfold nX at h;have dX:=KP hs (argv:=#[cx]++args.map a.eval) aab jS h;obtain⟨ab,snap,cu,bn,res,bY,⟨⟨fn,hfn,lJ,oX⟩,_⟩,_⟩:=h;unfold Oper.wp;have hr:(execOp a.eval o).run P γ.w=.ok (.enter g (#[cx]++args.map a.eval)) γ.w:=by
    have lM : ¬ fn.name = "runtime.NumGoroutine" := by simpa using lJ
    have iV:¬ fn.body=none:=by intro e;rw[e]at oX;simp at oX
    have e0:(#[Value.iface t Bo]++args.map a.eval)[0]?=some (.iface t Bo):=by rw[xJ Dg];simp
    have e1:=ext1 (.iface t Bo) (args.map a.eval);have e2:(callMethod (.iface t Bo) m (args.map a.eval)).run P γ.w=.ok (.enter g (#[cx]++args.map a.eval)) γ.w:=by
     unfold callMethod;simp only[Sem.run_bind,run_program,Result.andThen_ok,hm];simp[callFunc,hfn,lM,iV]
    simp only[execOp,cG,resolve,aW,pure_bind,invoke,e0,e1];exact e2
   rw[hr];show Calls P g _ _ _;refine dX.mono ?_;rintro e w'⟨cv,v,σ',av,rfl,rfl,fv,fS,eB,hv,hK,rh⟩;refine hn _ _ _ hK ⟨by rw[put_defers];exact e8,by rw[nf];exact aE,{ av with tmps:=(a.put o.dst cv).tmps },rfl,rfl,mA fS (by rw[fv,ha]) lG hv,?_⟩;rw[mB];exact(hf.trans eB).put _
  ·exact h.elim
 ·exact Tv h
def yy{N:Nat}{os:List Ob}{γ0:Cx}{ops:Array Oper}(hd:∀ o∈ops.toList,∀ d,o.dst=some d->d<N){K:St->Prop}{Q:Exit->Act->World->Prop}(hQ:∀ σ' a' w',K σ'->dM N os γ0 σ' a' w'->Q .normal a' w'):∀ (l:List Oper) (i:Nat) (σ:St) (a:Act) (w:World),ops.toList.drop i=l->opsL P ops l K σ->dM N os γ0 σ a w ->
   wpOps P ops Q (List.range' i l.length) a w
 |[],i,σ,a,w,_,h,aV=>by simpa [wpOps] using hQ _ _ _ h aV
 |o::r,i,σ,a,w,hl,h,aV=>by
  have hi:ops[i]?=some o:=by
   have:(ops.toList.drop i)[0]?=some o:=by rw[hl];rfl
   simpa using this
  have hr:ops.toList.drop (i+1)=r:=by
   have:=congrArg List.tail hl;simpa [List.tail_drop] using this
  have eh:o∈ops.toList:=fB (by simpa using hi);rw[cK,List.range'_succ,wpOps_cons];unfold wpOp;simp only[hi];unfold opsL at h;cases hg:o.guard with
  |none =>
   simp only[hg]at h;have hw:Region.wanted o (yielded ops a.tmps)=true:=by simp[Region.wanted,hg]
   rw[if_pos hw];left;exact uu h aV (hd o eh) (λσ' a' w' hK cW=>yy hd hQ r (i+1) σ' a' w' hr hK cW)
  |some jw =>
   obtain⟨j,want⟩:=jw;simp only[hg]at h;cases cV:(ops[j]?).bind (·.dst) with
   |none=>simp[cV]at h
   |some d =>
    simp only[cV]at h;split at h
    ·rename_i b he;obtain⟨e8,aE,γ,rfl,ha,hs,hf⟩:=aV;have fU:=hs.au d;rw[he,ha]at fU;have hv:=fU.bQ;have hy:yielded ops a.tmps j=some b:=by
      unfold yielded;rw[cV];have:a.tmps[d]?=some (.bool b):=by
       rw[dC]at hv;cases hx:a.tmps[d]? with
       |none=>rw[hx]at hv;simp[Go.undef]at hv
       |some y=>rw[hx]at hv;simp at hv;rw[hv]
      simp[this]
     by_cases eK:b=want
     ·have hw:Region.wanted o (yielded ops a.tmps)=true:=by simp[Region.wanted,hg,hy,eK]
      rw[if_pos hw];left;exact uu (h.1 eK) ⟨e8,aE,γ,rfl,ha,hs,hf⟩ (hd o eh) (λσ' a' w' hK cW=>yy hd hQ r (i+1) σ' a' w' hr hK cW)
     ·have hw:Region.wanted o (yielded ops a.tmps)=false:=by simp[Region.wanted,hg,hy,eK]
      rw[if_neg (by rw[hw];simp)];refine yy hd hQ r (i+1) _ _ _ hr (h.2 eK) ⟨by rw[put_defers];exact e8,by rw[nf];exact aE,{ γ with tmps:=(a.put o.dst Go.undef).tmps },rfl,rfl,mA hs ha (λd h=>by rw[aE];exact hd o eh d h) (.lit _),?_⟩;rw[mB];exact hf.put _
    ·rename_i vs he;obtain⟨e8,aE,γ,rfl,ha,hs,hf⟩:=aV;have fU:=hs.au d;rw[he,ha]at fU;have hv:=fU.bQ;have hy:yielded ops a.tmps j=none:=by
      unfold yielded;rw[cV];rw[dC]at hv;cases hx:a.tmps[d]? with
      |none=>simp[hx]
      |some y=>rw[hx]at hv;simp at hv;subst hv;simp[hx]
     have hw:Region.wanted o (yielded ops a.tmps)=false:=by simp[Region.wanted,hg,hy]
     rw[if_neg (by rw[hw];simp)];refine yy hd hQ r (i+1) _ _ _ hr h.2 ⟨by rw[put_defers];exact e8,by rw[nf];exact aE,{ γ with tmps:=(a.put o.dst Go.undef).tmps },rfl,rfl,mA hs ha (λd h=>by rw[aE];exact hd o eh d h) (.lit _),?_⟩;rw[mB];exact hf.put _
    ·exact h.elim
end Go.Am
namespace Go.Am
variable {P:Program} {N n0:Nat} {Q:Exit->St->Prop} {σ:St}
def KT{c:Code}{Q':Exit->St->Prop}(h:W P N n0 c Q σ)(hq:∀ e s,Q e s->Q' e s):W P N n0 c Q' σ :=
 λos γ0 a w hn aV=>wp_mono (h os γ0 a w hn aV) (λ_ _ _ ⟨σ',h1,h2⟩=>⟨σ',hq _ _ h1,h2⟩)
def Tz(h:Q .normal σ):W P N n0 .skip Q σ:=λ_ _ _ _ _ aV=>wp_skip ⟨σ,h,aV⟩
def TA{l:Nat}(h:Q .normal σ):W P N n0 (.label l) Q σ:=λ_ _ _ _ _ aV=>wp_label ⟨σ,h,aV⟩
def TB{id:Nat}(h:Q (.exit id) σ):W P N n0 (.exit id) Q σ:=λ_ _ _ _ _ aV=>wp_exit ⟨σ,h,aV⟩
def TC(h:Q .ret σ):W P N n0 .ret Q σ:=λ_ _ _ _ _ aV=>wp_ret ⟨σ,h,aV⟩
def TD(P:Program)(N n0:Nat)(y:Code)(Q:Exit->St->Prop):Exit->St->Prop
 |.normal,s=>W P N n0 y Q s
 |e,s=>Q e s
def A4{x y:Code}(h:W P N n0 x (TD P N n0 y Q) σ):W P N n0 (.seq x y) Q σ:=by
 intro os γ0 a w hn aV;refine wp_seq (wp_mono (h os γ0 a w hn aV) ?_);rintro e a' w'⟨σ',h1,h2⟩;cases e with
 |normal=>exact h1 os γ0 a' w' hn h2
 |exit id=>exact⟨σ',h1,h2⟩
 |goto l=>exact⟨σ',h1,h2⟩
 |ret=>exact⟨σ',h1,h2⟩
 |panic c=>exact⟨σ',h1,h2⟩
 |outgrown=>exact⟨σ',h1,h2⟩
def SG{c:Operand}{x y:Code}{t:Bool}(hc:ev σ c=.lit (.bool t))(ht:t=true->W P N n0 x Q σ)(hf:t=false->W P N n0 y Q σ):W P N n0 (.cond c x y) Q σ:=by
 intro os γ0 a w hn aV;have aW:a.eval c=.bool t:=by
  obtain⟨_,_,γ,rfl,ha,hs,_⟩:=aV;have:=mz hs ha c;rw[hc]at this;exact this.bQ
 exact wp_cond_split aW (λh=>ht h os γ0 a w hn aV) (λh=>hf h os γ0 a w hn aV)
def Bf(id:Nat)(Q:Exit->St->Prop):Exit->St->Prop
 |.exit uM,s=>if uM=id then Q .normal s else Q (.exit uM) s
 |e,s=>Q e s
def Te{id:Nat}{c:Code}(h:W P N n0 c (Bf id Q) σ):W P N n0 (.block id c) Q σ:=by
 intro os γ0 a w hn aV;refine wp_block (wp_mono (h os γ0 a w hn aV) ?_);rintro e a' w'⟨σ',h1,h2⟩;cases e with
 |exit uM =>
  simp only[Bf]at h1;simp only[Exit.inBlock];split
  ·rename_i he;rw[if_pos he]at h1;exact⟨σ',h1,h2⟩
  ·rename_i he;rw[if_neg he]at h1;exact⟨σ',h1,h2⟩
 |normal=>exact⟨σ',h1,h2⟩
 |goto l=>exact⟨σ',h1,h2⟩
 |ret=>exact⟨σ',h1,h2⟩
 |panic c=>exact⟨σ',h1,h2⟩
 |outgrown=>exact⟨σ',h1,h2⟩
def eJ(N:Nat)(ops:Array Oper):Bool:=ops.toList.all λo=>match o.dst with|some d=>decide (d<N)|none=>true
def kE{ops:Array Oper}(h:eJ N ops=true):∀ o∈ops.toList,∀ d,o.dst=some d->d<N:=by
 intro o ho d hd;unfold eJ at h;rw[gN]at h;have:=h o ho;simp[hd]at this;exact this
def KD{id:Nat}{ops:Array Oper}(hd:eJ N ops=true)(h:opsL P ops ops.toList (Q .normal) σ):W P N n0 (.region id ops false) Q σ:=by
 intro os γ0 a w _ aV;refine wp_region ?_;have:=yy (P:=P) (N:=N) (os:=os) (γ0:=γ0) (ops:=ops) (kE hd) (K:=Q .normal) (Q:=λe a' w'=>∃ σ',Q e σ'/\dM N os γ0 σ' a' w') (λσ' a' w' hK cW=>⟨σ',hK,cW⟩)
  ops.toList 0 σ a w rfl h aV
 rw[List.range_eq_range'];simpa using this
def dM.drawn{os:List Ob}{γ0:Cx}{a:Act}{w:World}(h:dM N os γ0 σ a w):dM N os γ0 σ a { w with drawn:=w.drawn+1 }:=by
 obtain⟨h1,h2,γ,rfl,h3,h4,h5⟩:=h;exact⟨h1,h2,{ γ with w:={ γ.w with drawn:=γ.w.drawn+1 } },rfl,h3,h4.Eg rfl,h5.Eg rfl rfl rfl rfl⟩
def aC(n0:Nat)(σ σ':St):Prop:=∀ (os:List Ob) (γ0 γ:Cx),os.length=n0->aZ σ γ->Fr os γ0 σ.aa γ->∃ av,av.w=γ.w/\av.tmps=γ.tmps/\aZ σ' av/\Fr os γ0 σ'.aa av
def cE{c:Code}{σ':St}(h:aC n0 σ σ')(hw:W P N n0 c Q σ'):W P N n0 c Q σ:=by
 intro os γ0 a w hn aV;obtain⟨h1,h2,γ,rfl,h3,h4,h5⟩:=aV;obtain⟨av,e1,e2,e3,e4⟩:=h os γ0 γ hn h4 h5;exact hw os γ0 a γ.w hn ⟨h1,h2,av,e1,e2.trans h3,e3,e4⟩
def aC.forget{e:Nat->AV}(h:∀ k,e k=.undef\/e k=σ.env k):aC n0 σ ⟨e,σ.aa⟩:=by
 intro os γ0 γ _ hs hf;refine⟨γ,rfl,rfl,⟨λk=>?_,hs.dL,hs.inj,hs.nz,hs.fG,hs.gl⟩,hf⟩;rcases h k with h|h
 ·show aq _ _ _ _ (e k) _;rw[h];exact .undef _
 ·show aq _ _ _ _ (e k) _;rw[h];exact hs.au k
def aC.select(ab:List Nat)(snap:Bool)(bn:List Ob)(e:Nat->AV)(cR:ab.Nodup)(cS:bn.length=ab.length)(o9:∀ (j:Nat) o,bn[j]?=some o->o=.gone\/σ.aa[ab.getD j 0]?=some (bu (bq σ.aa.length ab) o))(jy:∀ i∈ab,i<σ.aa.length)(hn:n0<=ab.length)(cp:∀ i,i<n0->ab.getD i 0=i)(he:∀ k,e k=.undef\/a9 σ (λid=>∃ j,j<ab.length/\ab.getD j 0=id/\bn[j]?≠some .gone) (bq σ.aa.length ab) snap (e k) (σ.env k)):aC n0 σ ⟨e,bn⟩:=by
 intro os γ0 γ Bp hs hf;obtain⟨av,h1,h2,h3,h4⟩:=hs.select ab snap bn cR cS o9 jy e γ.tmps (λk=>(he k).imp id λh=>⟨_,h,hs.au k⟩);exact⟨av,h1,h2,h3,hf.select Ay cS (λi hi=>cp i Ay) h1 h4⟩
def aC.trans{σ1 σ2:St}(h:aC n0 σ σ1)(k:aC n0 σ1 σ2):aC n0 σ σ2:=by
 intro os γ0 γ Bp hs hf;obtain⟨γ1,a1,a2,a3,a4⟩:=h os γ0 γ Bp hs hf;obtain⟨yz,b1,b2,b3,b4⟩:=k os γ0 γ1 Bp a3 a4;exact⟨yz,b1.trans a1,b2.trans a2,b3,b4⟩
def aC.nil(d sz:Nat)(h:σ.env d=.lit (.slice none 0 0))(h0:0<sz):aC n0 σ ⟨eY σ.env d (.ref σ.aa.length sz 0 0),σ.aa++[.arr sz []]⟩:=by
 intro os γ0 γ _ hs hf;have hp:=hs.uE h0;refine⟨{ γ with blk:=bZ γ.blk σ.aa.length none },rfl,rfl,⟨λk=>?_,hp.dL,hp.inj,hp.nz,hp.fG,hp.gl⟩,hf.trans (Fr.uE _ _ _)⟩;simp only[eY];by_cases hk:k=d
 ·subst hk;rw[if_pos rfl];have:=hs.au k;rw[h]at this;rw[this.bQ];exact .ju _ _ (List.getElem?_concat_length ..) (by simp[bZ])
 ·rw[if_neg hk];exact hp.au k
def dN(σ:St)(P:Program):List ResultVar->(List AV->Prop)->Prop
 |[],K=>K []
 |.tmp t::r,K=>dN σ P r λvs=>K (σ.env t::vs)
 |.cell a t::r,K =>
  (ty P t).kind≠99 /\
  match σ.env a with
  |.ptr id rr c =>
   match rowOf σ id rr with
   |some row=>jM (ty P t) row c λv=>dN σ P r λvs=>K (v::vs)
   |none=>False
  |_=>False
def dO:List AV->AV
 |[v]=>v
 |vs=>.bP vs
def A0{γ:Cx}(hs:aZ σ γ):∀ (rs:List ResultVar) (K:List AV->Prop),dN σ P rs K ->
  ∃ vs aI,K vs/\(rs.mapM λ(r:ResultVar)=>match r with|.tmp t=>(pure (γ.tmps.getD t Go.undef):Sem Value)|.cell a t=>do loadVar t (← asAddr (γ.tmps.getD a Go.undef))).run P γ.w=.ok aI γ.w /\
   aI.length=vs.length/\vs.length=rs.length/\∀ (j:Nat) v,vs[j]?=some v->aq σ.aa γ.w γ.Z γ.blk v (aI.getD j Go.undef)
 |[],K,h=>⟨[],[],h,Dg,rfl,rfl,Dg⟩
 |.tmp t::r,K,h=>by
  obtain⟨vs,aI,h1,h2,h3,h4,h5⟩:=A0 hs r _ h;refine⟨_,γ.tmps.getD t Go.undef::aI,h1,?_,by simp[h3],by simp[h4],?_⟩
  ·simp only[List.mapM_cons,Sem.run_bind,Sem.run_pure,Result.andThen_ok,h2]
  ·intro j v hj;cases j with
   |zero=>simp at hj;subst hj;simpa using hs.au t
   |succ j=>simpa using h5 j v (by simpa using hj)
 |.cell a t::r,K,h=>by
  obtain⟨hk,h⟩:=h;split at h
  ·rename_i id rr c he;have hv:=hs.au a;rw[he]at hv;split at h
   ·rename_i row aP;obtain⟨v,cv,l1,l2,l3⟩:=Ef hs hk hv aP h;obtain⟨vs,aI,h1,h2,h3,h4,h5⟩:=A0 hs r _ l3;obtain⟨b,base,cap,cur,tt,o,hp,_⟩:=Bn hs hv aP;have dF:(do loadVar t (← asAddr (γ.tmps.getD a Go.undef)):Sem Value).run P γ.w=.ok cv γ.w:=by
     rw[hp]at l1 ⊢;simp only[Instr.loadAt,Instr.sureAddr,Sem.run_bind,Sem.run_pure,Result.andThen_ok]at l1;simp only[asAddr,Sem.run_bind,Sem.run_pure,Result.andThen_ok];exact l1
    refine⟨_,cv::aI,h1,?_,by simp[h3],by simp[h4],?_⟩
    ·simp only[List.mapM_cons];rw[Sem.run_bind,dF];simp only[Result.andThen_ok,Sem.run_bind,h2,Sem.run_pure]
    ·intro j x hj;cases j with
     |zero=>simp at hj;subst hj;simpa using l2
     |succ j=>simpa using h5 j x (by simpa using hj)
   ·exact h.elim
  ·exact h.elim
def my(n0:Nat)(σ:St)(v res:AV)(aY:List Ob):Prop :=
 ∃ (ab:List Nat) (snap:Bool),ab.Nodup/\aY.length=ab.length/\(∀ (j:Nat) o,aY[j]?=some o->o=.gone\/σ.aa[ab.getD j 0]?=some (bu (bq σ.aa.length ab) o))/\(∀ i∈ab,i<σ.aa.length) /\
  n0<=ab.length/\(∀ i,i<n0->ab.getD i 0=i)/\a9 σ (λid=>∃ j,j<ab.length/\ab.getD j 0=id/\aY[j]?≠some .gone) (bq σ.aa.length ab) snap res v
def wy(P:Program)(n0:Nat)(rs:List ResultVar)(res:AV)(aY:List Ob):Exit->St->Prop
 |.normal,s=>dN s P rs λvs=>my n0 s (dO vs) res aY
 |.ret,s=>dN s P rs λvs=>my n0 s (dO vs) res aY
 |_,_=>False
def ao.DP {f : FuncId} {fn : Func} {c : Code} {args : List AV} {aa : List Ob} {res : AV} {aY : List Ob} (hf : P.funcs[f]? = some fn) (hb : fn.body = some c) (lJ : (fn.name == "runtime.NumGoroutine") = false)
  (hN:args.length<=fn.ntmps) (h:W P fn.ntmps aa.length c (wy P aa.length fn.results.toList res aY) ⟨λk=>args.getD k .undef,aa⟩):ao P f args aa res aY:=by
 refine⟨⟨fn,hf,lJ,by rw[hb];rfl⟩,?_⟩;intro γ aE hs;refine calls_of_wp hf hb ?_
 let tm:=γ.tmps++Array.replicate (fn.ntmps-γ.tmps.size) Go.undef
 have aV:dM fn.ntmps aa γ ⟨λk=>args.getD k .undef,aa⟩ { tmps:=tm,defers:=[] } γ.w:=by
  refine⟨rfl,by simp[tm];omega,{ γ with tmps:=tm },rfl,rfl,⟨λk=>?_,hs.dL,hs.inj,hs.nz,hs.fG,hs.gl⟩,(Fr.refl _ _).put _⟩;rcases dD k args.length with hk|hk
  ·have:=hs.au k;have e:tm.getD k Go.undef=γ.tmps.getD k Go.undef:=by
    simp only[tm,dC];rw[xJ Ay]
   show aq _ _ _ _ _ (tm.getD k Go.undef);rw[e];exact this
  ·have e:args.getD k AV.undef=.undef:=by simp[hk]
   show aq _ _ _ _ (args.getD k .undef) _;rw[e];exact .undef _
 refine wp_mono (h aa γ _ γ.w rfl aV) ?_;rintro e a' w'⟨σ',h1,e8,_,av,rfl,ha,fS,eB⟩;have fin:∀ (K:List AV->Prop),dN σ' P fn.results.toList K->(∀ vs,K vs->my aa.length σ' (dO vs) res aY) ->
   a'.defers=[]/\∃ v,(results fn a'.tmps).run P av.w=.ok v av.w/\∃ cv gf,Ending.returned v=.returned cv/\gf.w=av.w/\gf.tmps = #[cv]/\aZ ⟨λk=>[res].getD k .undef,aY⟩ gf/\Fr aa γ aY gf:=by
  intro K hK DQ;obtain⟨vs,aI,k1,k2,k3,k4,k5⟩:=A0 fS _ _ hK;obtain⟨ab,snap,r1,r2,r3,r4,r5,r6,r7⟩:=DQ vs k1;refine⟨e8,?_⟩;have dF :∃v,(results fn a'.tmps).run P av.w=.ok v av.w/\aq σ'.aa av.w av.Z av.blk (dO vs) v:=by
   have hm:(fn.results.mapM λ(r:ResultVar)=>match r with|.tmp t=>(pure (a'.tmps.getD t Go.undef):Sem Value)|.cell a t=>do loadVar t (← asAddr (a'.tmps.getD a Go.undef))).run P av.w=.ok aI.toArray av.w:=by
    rw[Array.mapM_eq_mapM_toList,Sem.run_map,<- ha,k2];rfl
   have hr:(results fn a'.tmps).run P av.w=.ok (if h:aI.toArray.size=1 then aI.toArray[0] else .tuple aI.toArray) av.w:=by
    unfold results;rw[Sem.run_bind];exact congrArg (λr=>Result.andThen r λ(a:Array Value) w'=>(pure (if h:a.size=1 then a[0] else Value.tuple a):Sem Value).run P w') hm
   rw[hr]
   match vs,aI,k3,k5 with
   |[],[],_,k5=>exact⟨_,rfl,.bP _ _ rfl (λj x hj=>by simp at hj)⟩
   |[v],[cv],_,k5=>exact⟨cv,Dg,by simpa [dO] using k5 0 v rfl⟩
   |v::v'::vs,cv::lK::aI,k3,k5 =>
    refine⟨.tuple (cv::lK::aI).toArray,Dg,.bP _ _ (by simpa using k3) (λj x hj=>?_)⟩;have:=k5 j x hj;simpa [aw,dC] using this
  obtain⟨v,nZ,qc⟩:=dF;obtain⟨gf,e1,e2,e3,e4⟩:=fS.select ab snap aY r1 r2 r3 r4 (λk=>[res].getD k .undef) #[v] (λk=>by
   cases k with
   |zero=>exact .inr ⟨_,r7,by simpa using qc⟩
   |succ k=>left;simp)
  exact⟨v,nZ,v,gf,rfl,e1,e2,e3,eB.select r5 r2 r6 e1 e4⟩
 cases e with
 |normal=>exact fin _ h1 (λ_ h=>h)
 |ret=>exact fin _ h1 (λ_ h=>h)
 |exit id=>exact h1.elim
 |goto l=>exact h1.elim
 |panic c=>exact h1.elim
 |outgrown=>exact h1.elim
theorem ao.aO {f:FuncId} {fn:Func} {c:Code} {args:List AV} {aa:List Ob} {res:AV} {aY:List Ob} (N k:Nat) (rs:List ResultVar) (hf:P.funcs[f]?=some fn) (h:W P N k c (wy P k rs res aY) ⟨fun k=>args.getD k .undef,aa⟩) (hb:fn.body=some c:=by rfl) (lJ:(fn.name=="runtime.NumGoroutine")=false:=by rfl) (hN:fn.ntmps=N:=by rfl) (yg:fn.results.toList=rs:=by rfl) (hk:aa.length=k:=by rfl) (hl:args.length<=N:=by simp):ao P f args aa res aY:=by
 subst hN;subst yg;subst hk;exact ao.DP hf hb lJ hl h
def SE{x y:Code}(h:∀ Q':Exit->St->Prop,(∀ s,W P N n0 y Q s->Q' .normal s)->(∀ e s,e≠.normal->Q e s->Q' e s)->W P N n0 x Q' σ):W P N n0 (.seq x y) Q σ :=
 A4 (h _ (λ_ h=>h) (λe s he hq=>by cases e<;>first|exact absurd rfl he|exact hq))
def Jh{id:Nat}{ops:Array Oper}{y:Code}(hd:eJ N ops=true)(h:∀ K:St->Prop,(∀ s,W P N n0 y Q s->K s)->opsL P ops ops.toList K σ):W P N n0 (.seq (.region id ops false) y) Q σ :=
 A4 (KD hd (h _ (λ_ h=>h)))
def J6{ops:Array Oper}{K:St->Prop}:opsL P ops [] K σ=K σ:=rfl
def J7{ops:Array Oper}{o:Oper}{r:List Oper}{K:St->Prop}:opsL P ops (o::r) K σ =
  match o.guard with
  |none=>aR P o σ (opsL P ops r K)
  |some (j,want) =>
   match (ops[j]?).bind (·.dst) with
   |none=>False
   |some d =>
    match σ.env d with
    |.lit (.bool b)=>lg P o (opsL P ops r K) b want σ
    |.lit (.tuple vs)=>vs = #[]/\opsL P ops r K (σ.put o.dst (.lit (.tuple #[])))
    |_=>False:=rfl
def A7{o:Oper}{K:St->Prop}:lg P o K true true σ=aR P o σ K:=by simp[lg]
def Ka{o:Oper}{K:St->Prop}:lg P o K false false σ=aR P o σ K:=by simp[lg]
def J9{o:Oper}{K:St->Prop}:lg P o K true false σ=K (σ.put o.dst (.lit (.tuple #[]))):=by simp[lg]
def J'{o:Oper}{K:St->Prop}:lg P o K false true σ=K (σ.put o.dst (.lit (.tuple #[]))):=by simp[lg]
def TE{o:Oper}{K:St->Prop}{b want:Bool}(h1:b=true->lg P o K true want σ)(h2:b=false->lg P o K false want σ):lg P o K b want σ:=by
 cases b
 ·exact h2 rfl
 ·exact h1 rfl
def TF(ds:List Nat)(e:Nat->AV):Nat->AV:=λk=>if ds.contains k then .undef else e k
def A6{ds:List Nat}{e:Nat->AV}{k:Nat}:TF ds e k=if ds.contains k then .undef else e k:=rfl
def Sb(e:Nat->AV)(d:Nat)(v:AV):eY e d v d=v:=by simp[eY]
mutual
def iu:AV->Bool
 |.ref ..=>false
 |.ptr ..=>false
 |.agg cs=>jP cs
 |.bP cs=>jP cs
 |.fn _ cs=>jP cs
 |.fj _ v=>iu v
 |.dx _=>false
 |_=>true
def jP:List AV->Bool
 |[]=>true
 |v::vs=>iu v&&jP vs
end
mutual
def ur(ρ:Nat->Nat):∀ (v:AV),iu v=true->aU ρ v=v
 |.undef,_=>rfl
 |.lit _,_=>rfl
 |.tree ..,_=>rfl
 |.cm _,_=>rfl
 |.ref ..,h=>by simp[iu]at h
 |.ptr ..,h=>by simp[iu]at h
 |.agg cs,h=>by simp only[iu]at h;simp only[aU];rw[v8 ρ cs h]
 |.bP cs,h=>by simp only[iu]at h;simp only[aU];rw[v8 ρ cs h]
 |.fn f cs,h=>by simp only[iu]at h;simp only[aU];rw[v8 ρ cs h]
 |.fj t v,h=>by simp only[iu]at h;simp only[aU];rw[ur ρ v h]
 |.dx _,h=>by simp[iu]at h
def v8(ρ:Nat->Nat):∀ (l:List AV),jP l=true->lD ρ l=l
 |[],_=>rfl
 |v::vs,h=>by
  simp only[jP,bd]at h;simp only[lD];rw[ur ρ v h.1,v8 ρ vs h.2]
end
def TG{l:List AV}(h:jP l=true){j:Nat}{x:AV}(hx:l[j]?=some x):iu x=true:=by
 induction l generalizing j with
 |nil=>simp at hx
 |cons v l ih =>
  simp only[jP,bd]at h;cases j with
  |zero=>simp at hx;subst hx;exact h.1
  |succ j=>exact ih h.2 (by simpa using hx)
def br{f:FuncId}{args:List AV}{dst:Option Tmp}{K:St->Prop}{res:AV}(h:ao P f args [] res [])(ha:jP args=true)(hr:iu res=true)(hK:K (σ.put dst res)):nX P f args dst K σ:=by
 refine⟨[],false,args,[],res,[],h,⟨List.nodup_nil,rfl,Dg,rfl,?_,Dg⟩,?_⟩
 ·intro j c d hc hd;rw[hc]at hd;simp at hd;subst hd;have:=a9.same (σ:=σ) (kp:=(·∈([]:List Nat))) (ρ:=bq σ.aa.length []) (snap:=false) c;rw[ur _ c (TG ha hc)]at this;exact this
 ·rw[ur _ _ hr];simpa [dU] using hK
def oT{v:AV}(hr:iu v=true):my 0 σ v v []:=by
 refine⟨[],false,List.nodup_nil,rfl,Dg,Dg,aM _,Dg,?_⟩;have:=a9.same (σ:=σ) (kp:=λid=>∃ j,j<([]:List Nat).length/\([]:List Nat).getD j 0=id/\([]:List Ob)[j]?≠some .gone) (ρ:=bq σ.aa.length []) (snap:=false) v;rw[ur _ _ hr]at this;exact this
end Go.Am
namespace Go.Am
variable {P:Program}
def cls:Op->Nat
 |.move _|.assign _|.pick ..|.convert ..|.binOp ..|.unOp ..|.makeFunc ..|.makeInterface ..|.typeAssert ..|.field ..|.extract ..|.build ..|.index ..=>0
 |.call { callee:=.builtin .min,.. }|.call { callee:=.builtin .max,.. }=>0
 |.nilCheck _|.fieldAddr ..|.indexAddr ..|.slice ..=>1
 |.call { callee:=.builtin .len,.. }=>1
 |.load ..|.lookup ..=>2
 |.alloc _|.box ..|.makeSlice ..|.buildSlice ..|.makeMap ..=>3
 |.store ..=>4
 |_=>5
def o8:Ob->Ob->Prop
 |.var _,.var _=>True
 |.arr s _,.arr s' _=>s=s'
 |.mp a L,.mp b M=>a=b/\L=M
 |.gone,.gone=>True
 |_,_=>False
def uv(o:Ob):o8 o o:=by cases o<;>simp[o8]
def iG(c:Nat)(a b:List Ob):Prop :=
 if c<=2 then b=a
 else if c=3 then ∀ (id:Nat),id<a.length->b[id]?=a[id]?
 else if c=4 then b.length=a.length/\∀ (id:Nat) o o',a[id]?=some o->b[id]?=some o'->o8 o o'
 else True
def TH(c:Nat)(h:c<=2)(a:List Ob):iG c a a:=by simp[iG,h]
def Br(a:List Ob)(o:Ob):iG 3 a (a++[o]):=by
 simp only[iG];intro id h;exact cr h
def TI(σ:St)(id r:Nat)(row:List AV):iG 4 σ.aa (kZ σ id r row).aa:=by
 simp only[iG];rw[if_neg Ha,if_neg Ha,if_pos trivial];have key:∀ (x y:Ob),σ.aa[id]?=some x->o8 x y->(σ.aa.set id y).length=σ.aa.length/\∀ (i:Nat) o o',σ.aa[i]?=some o->(σ.aa.set id y)[i]?=some o'->o8 o o':=by
  intro x y hx fJ;refine⟨Dg,λi o o' ho cz=>?_⟩;rw[List.getElem?_set]at cz;split at cz
  ·rename_i e;subst e;split at cz
   ·simp at cz;subst cz;rw[hx]at ho;simp at ho;subst ho;exact fJ
   ·simp at cz
  ·rw[ho]at cz;simp at cz;subst cz;exact uv o
 unfold kZ;split
 ·rename_i cells h;exact key _ _ h trivial
 ·rename_i sz rows h;exact key _ _ h rfl
 ·exact⟨rfl,λi o o' ho cz=>by rw[ho]at cz;simp at cz;subst cz;exact uv o⟩
def oV:AV->Option Nat
 |.ref id _ _ _=>some id
 |.ptr id _ _=>some id
 |.dx id=>some id
 |_=>none
def gB(c:Nat)(a b:Option Ob):Prop :=
 if c=0 then True else if c=1 then ∀ o,a=some o->∃ o',b=some o'/\o8 o o' else ∀ o,a=some o->b=some o
def mD(c:Nat)(l:List Operand)(σ:St)(e2:Nat->AV)(ob:List Ob):Prop :=
 (∀ x∈l,ev ⟨e2,ob⟩ x=ev σ x)/\(∀ x∈l,∀ id,oV (ev σ x)=some id->gB c σ.aa[id]? ob[id]?)
def Eh(P:Program)(o:Oper)(σ:St)(K:St->Prop)(c:Nat)(l:List Operand):Prop :=
 ∃ v os,iG c σ.aa os/\K ((⟨σ.env,os⟩:St).put o.dst v)/\∀ e2 ob bR (K2:St->Prop),mD c l σ e2 ob->(if c<=2 then bR=ob else ob=σ.aa/\bR=os)->K2 ((⟨e2,bR⟩:St).put o.dst v)->bF P o ⟨e2,ob⟩ K2
theorem dA{o:Oper}{σ:St}{K:St->Prop}{c:Nat}{l:List Operand}{v:AV}(hW:K (σ.put o.dst v))(h:∀ e2 ob (K2:St->Prop),mD c l σ e2 ob->K2 ((⟨e2,ob⟩:St).put o.dst v)->bF P o ⟨e2,ob⟩ K2)(hc:c<=2:=by simp[cls]):Eh P o σ K c l :=
 ⟨v,σ.aa,TH _ hc _,hW,fun e2 ob bR K2 hx ho dZ=>h e2 ob K2 hx (by rw[if_pos hc]at ho;subst ho;exact dZ)⟩
def dB{o:Oper}{σ:St}{K:St->Prop}{c:Nat}{l:List Operand}{v:AV}{os:List Ob}(hc:3<=c)(he:iG c σ.aa os)(hW:K ((⟨σ.env,os⟩:St).put o.dst v))(h:∀ e2 (_:List Ob) (K2:St->Prop),mD 0 l σ e2 σ.aa->K2 ((⟨e2,os⟩:St).put o.dst v)->bF P o ⟨e2,σ.aa⟩ K2):Eh P o σ K c l :=
 ⟨v,os,he,hW,λe2 ob bR K2 hx ho dZ=>by rw[if_neg Ay]at ho;obtain⟨rfl,rfl⟩:=ho;exact h e2 σ.aa K2 ⟨hx.1,λ_ _ _ _=>by simp[gB]⟩ dZ⟩
def parts_eq{parts:Array (Nat×Operand)}{σ τ:St}(h:∀ x∈parts.toList.map (·.2),ev τ x=ev σ x):
  (parts.toList.map λp=>(p.1,ev τ p.2))=(parts.toList.map λp=>(p.1,ev σ p.2))/\(parts.toList.all λp=>(cellsOf (ev τ p.2)).all bU)=(parts.toList.all λp=>(cellsOf (ev σ p.2)).all bU):=by
 have hp:(parts.toList.map λp=>(p.1,ev τ p.2))=(parts.toList.map λp=>(p.1,ev σ p.2)):=oO λp hp=>by rw[h _ (Aw hp)]
 exact⟨hp,by simpa [List.all_map,Function.comp_def] using congrArg (·.all λq=>(cellsOf q.2).all bU) hp⟩
def Kw{t:Ty}{cells:List AV}{c:Nat}{K:AV->Prop}(h:jM t cells c K):∃v,K v/\∀ K2:AV->Prop,K2 v->jM t cells c K2:=by
 unfold jM at h ⊢;split at h
 ·exact⟨_,h.2,λK2 hK=>by simp_all⟩
 ·split at h<;>first|exact h.elim|exact⟨_,h,λK2 hK=>by simp_all⟩
def TJ{k:IntKind}{p q:Int}{K:Value->Prop}(h:qo k p q K):∃v,K v/\∀ K2:Value->Prop,K2 v->qo k p q K2:=by
 by_cases hk:k=.u64
 ·rw[qo,if_pos hk]at h;exact⟨_,h,λK2 h2=>by rw[qo,if_pos hk];exact h2⟩
 ·rw[qo,if_neg hk]at h;exact⟨_,h.2,λK2 h2=>by rw[qo,if_neg hk];exact⟨h.1,h2⟩⟩
def TK{k:IntKind}{p:Int}{K:Value->Prop}(h:oZ k p K):∃v,K v/\∀ K2:Value->Prop,K2 v->oZ k p K2:=by
 by_cases hk:k=.u64
 ·rw[oZ,if_pos hk]at h;exact⟨_,h,λK2 h2=>by rw[oZ,if_pos hk];exact h2⟩
 ·rw[oZ,if_neg hk]at h;exact⟨_,h.2,λK2 h2=>by rw[oZ,if_neg hk];exact⟨h.1,h2⟩⟩
def TL{op:BinOp}{k:IntKind}{p q:Int}{K:Value->Prop}(h:eS op k p q K):∃v,K v/\∀ K2:Value->Prop,K2 v->eS op k p q K2:=by
 unfold eS at h ⊢;split at h<;>first|exact TJ h|exact⟨_,h.2,λK2 h'=>⟨h.1,h'⟩⟩|exact⟨_,h,λK2 h=>h⟩|exact h.elim
def TM{σ:St}{e:Nat->AV}{ob:List Ob}{id r:Nat}{row:List AV}(h:∀ o,σ.aa[id]?=some o->ob[id]?=some o)(hr:rowOf σ id r=some row):rowOf ⟨e,ob⟩ id r=some row:=by
 unfold rowOf at hr ⊢;cases ho:σ.aa[id]?<;>simp_all
def TN{σ:St}{e:Nat->AV}{ob:List Ob}{v:AV}{q:Nat×Nat×List (List Int×AV)}(h:∀ id,v=.dx id->∀ o,σ.aa[id]?=some o->ob[id]?=some o)(hm:jo σ v=some q):jo ⟨e,ob⟩ v=some q:=by
 unfold jo at hm ⊢;split at hm
 ·rename_i id;split at hm
  ·rename_i ag L ho;have:=h id rfl _ ho;simp only[this];exact hm
  ·cases hm
 ·cases hm
def KU{o:Oper}{σ:St}{K:St->Prop}(hW:bF P o σ K):Eh P o σ K (cls o.op) o.op.operands.toList:=by
 obtain⟨dst,op,type,pos,after,guard⟩:=o;unfold bF at hW;cases op
 case call c =>
  obtain⟨callee,args,argTypes⟩:=c;cases callee<;>try exact hW.elim
  rename_i b;cases b<;>try exact hW.elim
  all_goals simp only at hW
  case append =>
   (repeat' split at hW)<;>try exact hW.elim
   rename_i s x t t' cd fv _ _ _ _ z pre σ1 sz src hk hz yA pf;have rh:σ1=⟨σ.env,σ1.aa⟩/\∀ e,m9 ⟨e,σ.aa⟩ (ty P (ty P t).elem).size (ev σ s)=some (pre,⟨e,σ1.aa⟩):=by
    unfold m9 at yA ⊢;(repeat' split at yA)<;>simp_all
    all_goals obtain⟨rfl,rfl⟩:=yA;simp
   refine dB (os:=σ1.aa++[.arr sz (pre++src)]) (by simp[cls]) trivial (by have:=hW.2;rw[rh.1]at this;exact this) λe2 ob K2 hx dZ=>?_;have mE:k7 ⟨e2,σ.aa⟩ (ev σ x)=some (sz,src):=pf;unfold bF;simp[mD,Op.operands,Call.operands,cd]at hx;simp only[cd,fv,hx.1.1,hx.1.2,hk,hz,rh.2,mE];exact⟨hW.1,dZ⟩
  case copy =>
   (repeat' split at hW)<;>try exact hW.elim
   rename_i cd fv _ _ id _ _ _ _ src he pf _ _ _ ho;refine dB (by simp[cls]) trivial hW.2 λe2 ob K2 hx dZ=>?_;have mE:k7 ⟨e2,σ.aa⟩ _=_:=pf;unfold bF;simp[mD,Op.operands,Call.operands,cd]at hx;simp only[cd,fv,hx.1.1,hx.1.2,he,mE,ho];exact⟨hW.1,dZ⟩
  case clear =>
   (repeat' split at hW)<;>try exact hW.elim
   rename_i cd fv _ _ id _ _ _ _ he hz _ _ _ ho;refine dB (by simp[cls]) trivial hW.2 λe2 ob K2 hx dZ=>?_;unfold bF;simp[mD,Op.operands,Call.operands,cd]at hx;simp only[cd,fv,hx,he,hz,ho];exact⟨hW.1,dZ⟩
  all_goals(repeat' split at hW)<;>first|exact hW.elim|exact hW.2.elim|refine dA hW ?_|refine dA hW.2 ?_|refine dA hW.2.2 ?_
  all_goals
   intro e2 ob K2 hx dZ;unfold bF;simp[mD,Op.operands,Call.operands,oV,gB,cls, *]at hx ⊢;first|done|(simp_all;done)|(obtain⟨_,o',_,hk⟩:=hx;cases o'<;>simp_all [o8];done)
 case load t x =>
  simp only at hW;obtain⟨hk,hW⟩:=hW;(repeat' split at hW)<;>try exact hW.elim
  all_goals
   obtain⟨v,hK,hl⟩:=Kw hW;refine dA hK λe2 ob K2 hx dZ=>?_;unfold bF;simp[mD,Op.operands,oV,gB,cls, *]at hx;first|simp only[hx.1,TM hx.2 ‹rowOf _ _ _=_›]|simp only[hx]
   exact⟨hk,hl _ dZ⟩
 case store t x y =>
  simp only at hW;obtain⟨hk,hW⟩:=hW;(repeat' split at hW)<;>try exact hW.elim
  rename_i id r c he _ row aP;have rh:∀ row,kZ σ id r row=⟨σ.env,(kZ σ id r row).aa⟩/\∀ e,kZ ⟨e,σ.aa⟩ id r row=⟨e,(kZ σ id r row).aa⟩:=by
   intro row;unfold kZ;simp only;split<;>simp_all
  refine dB (by simp[cls]) (TI _ _ _ _) (by have:=hW.2;rw[(rh _).1]at this;exact this) λe2 ob K2 hx dZ=>?_;have mF:rowOf ⟨e2,σ.aa⟩ id r=some row:=aP;unfold bF;simp only[hx.1 x (by simp[Op.operands]),hx.1 y (by simp[Op.operands]),he,mF];rw[(rh _).2];exact⟨hk,hW.1,dZ⟩
 case build t parts =>
  simp only at hW;(repeat' split at hW)<;>first|exact hW.elim|refine dA hW.2 ?_
  all_goals
   intro e2 ob K2 hx dZ;obtain⟨h1,h2⟩:=parts_eq (parts:=parts) (by simpa [Op.operands] using hx.1);unfold bF;simp only[h1,h2, *];simp[hW.1]
 case buildSlice t _ parts =>
  simp only at hW;(repeat' split at hW)<;>first|exact hW.elim|refine dB (aM 3) (Br _ _) hW.2 ?_
  intro e2 ob K2 hx dZ;obtain⟨h1,h2⟩:=parts_eq (parts:=parts) (by simpa [Op.operands] using hx.1);unfold bF;simp only[h1,h2, *];simp[hW.1]
 case makeFunc fn first captured =>
  simp only at hW;split at hW<;>first|exact hW.elim|refine dA hW.2 λe2 ob K2 hx dZ=>?_
  unfold bF;simp only[oO (l:=captured.toList) (f:=ev ⟨e2,ob⟩) (g:=ev σ) λy hy=>hx.1 y (by simp only[Op.operands,vQ,List.mem_append];exact .inr hy)];exact⟨hW.1,dZ⟩
 case unOp op t x =>
  simp only at hW;split at hW
  ·rename_i b he;refine dA hW λe2 ob K2 hx dZ=>?_;unfold bF;simp[mD,Op.operands]at hx;simp only[hx.1,he];exact dZ
  ·rename_i k p he;obtain⟨v,hK,hl⟩:=TK hW;refine dA hK λe2 ob K2 hx dZ=>?_;unfold bF;simp[mD,Op.operands]at hx;simp only[hx.1,he];exact hl _ dZ
  ·exact hW.elim
 case binOp op t x y yt =>
  simp only at hW;split at hW
  ·rename_i k p k' q he hf;obtain⟨hk,hW⟩:=hW;obtain⟨v,hK,hl⟩:=TL hW;refine dA hK λe2 ob K2 hx dZ=>?_;unfold bF;simp[mD,Op.operands,he,hf]at hx;simp only[hx.1.1,hx.1.2];exact⟨hk,hl _ dZ⟩
  all_goals(repeat' split at hW)<;>first|exact hW.elim|exact hW.2.elim|refine dA hW.2 ?_
  all_goals
   intro e2 ob K2 hx dZ;unfold bF;simp[mD,Op.operands, *]at hx ⊢;first|done|(simp_all;done)
 case slice t x lo hi mx =>
  simp only at hW;obtain⟨hk,cL,rfl,hW⟩:=hW;cases lo<;>cases hi<;>simp only[g9,Option.map_none]at hW;all_goals(repeat' split at hW)<;>first|exact hW.elim|exact hW.2.elim|exact hW.2.2.elim|refine dA hW.2 ?_|refine dA hW.2.2 ?_|refine dA hW.2.2.2 ?_
  all_goals
   intro e2 ob K2 hx dZ;unfold bF;simp only[dv.injEq]at *;simp[mD,Op.operands,oV,gB,cls, *]at hx ⊢;first|done|(simp_all;done)|(obtain⟨_,o',_,hk⟩:=hx;cases o'<;>simp_all [o8];done)|(obtain⟨_,⟨o',_,hk⟩,_⟩:=hx;cases o'<;>simp_all [o8];done)|trace_state
 case makeMap t r =>
  simp only at hW;obtain⟨⟨rfl,hk⟩,hK⟩:=hW;refine dB (aM 3) (Br _ _) hK λe2 ob K2 hx dZ=>?_;unfold bF;exact⟨⟨rfl,hk⟩,dZ⟩
 case lookup t x i ok =>
  simp only at hW;split at hW
  ·rename_i ag l id fT L z eA lU iL;refine dA hW.2 λe2 ob K2 hx dZ=>?_;have h1:=hx.1 x (by simp[Op.operands]);have h2:=hx.1 i (by simp[Op.operands]);have h3:jo ⟨e2,ob⟩ (ev σ x)=some (id,fT,L):=TN (λuM cp o ho=>by
    have:=hx.2 x (by simp[Op.operands]) uM (by rw[cp];rfl);unfold gB at this;simp[cls]at this;exact this o ho) lU
   unfold bF;simp only[h1,h2,eA,h3,iL];exact⟨hW.1,dZ⟩
  ·exact hW.elim
 case mapUpdate t m k x =>
  simp only at hW;split at hW
  ·rename_i eA lU;obtain⟨iX,yB⟩:=hW;refine dB (v:=.undef) (os:=_) (by simp[cls]) trivial yB λe2 ob K2 hx dZ=>?_;have h1:=hx.1 m (by simp[Op.operands]);have h2:=hx.1 k (by simp[Op.operands]);have h3:=hx.1 x (by simp[Op.operands]);have h4:jo ⟨e2,σ.aa⟩ (ev σ m)=_:=lU;unfold bF;simp only[h1,h2,h3,eA,h4];exact⟨iX,dZ⟩
  ·exact hW.elim
 case mapEntry t m k =>
  simp only at hW;split at hW
  ·rename_i eA lU iL;obtain⟨iX,yB⟩:=hW;refine dB (v:=_) (os:=_) (by simp[cls]) trivial yB λe2 ob K2 hx dZ=>?_;have h1:=hx.1 m (by simp[Op.operands]);have h2:=hx.1 k (by simp[Op.operands]);have h4:jo ⟨e2,σ.aa⟩ (ev σ m)=_:=lU;unfold bF;simp only[h1,h2,eA,h4,iL];exact⟨iX,dZ⟩
  ·exact hW.elim
 case entryStore t m s x =>
  simp only at hW;split at hW
  ·rename_i hs lU;obtain⟨iX,yB⟩:=hW;refine dB (v:=.undef) (os:=_) (by simp[cls]) trivial yB λe2 ob K2 hx dZ=>?_;have h1:=hx.1 m (by simp[Op.operands]);have h2:=hx.1 s (by simp[Op.operands]);have h3:=hx.1 x (by simp[Op.operands]);have h4:jo ⟨e2,σ.aa⟩ (ev σ m)=_:=lU;unfold bF;simp only[h1,h2,h3,hs,h4];exact⟨iX,dZ⟩
  ·exact hW.elim
 all_goals(try simp only at hW);(try exact hW.elim)
 all_goals(repeat' split at hW)<;>first|exact hW.elim|exact hW.2.elim|exact hW.2.2.elim|refine dA hW ?_|refine dA hW.2 ?_|refine dA hW.2.2 ?_|refine dA hW.2.2.2 ?_|refine dB (aM 3) (Br _ _) hW.2 ?_|refine dB (aM 3) (Br _ _) hW.2.1 ?_
 all_goals
  intro e2 ob K2 hx dZ;unfold bF;simp[mD,Op.operands,oV,gB,cls,-gN, *]at hx ⊢;first|done|(simp_all;done)|(obtain⟨_,rfl,_⟩:=hW;simp_all;done)|(obtain⟨_,o',_,hk⟩:=hx;cases o'<;>simp_all [o8];done)
def SS{o:Oper}{σ:St}{K:St->Prop}(hW:bF P o σ K):
  ∃ v os,iG (cls o.op) σ.aa os/\K ((⟨σ.env,os⟩:St).put o.dst v)/\∀ (e2:Nat->AV) (K2:St->Prop),(∀ x∈o.op.operands.toList,ev ⟨e2,σ.aa⟩ x=ev σ x)->K2 ((⟨e2,os⟩:St).put o.dst v)->bF P o ⟨e2,σ.aa⟩ K2:=by
 obtain⟨v,os,h1,h2,h3⟩:=KU hW;refine⟨v,os,h1,h2,λe2 K2 hx hK=>h3 e2 _ os K2 ⟨hx,λ_ _ _ _=>?_⟩ ?_ hK⟩
 ·unfold gB;(repeat' split)<;>first|trivial|exact λo ho=>ho|exact λo ho=>⟨o,ho,uv o⟩
 ·split
  ·rename_i hc;simpa [iG,hc] using h1
  ·exact⟨rfl,rfl⟩
def Is{o:Oper}{σ:St}{K:St->Prop}(hc:cls o.op<=2)(hW:bF P o σ K):
  ∃ v,K (σ.put o.dst v)/\∀ (σ2:St) (K2:St->Prop),(∀ x∈o.op.operands.toList,ev σ2 x=ev σ x)->(∀ x∈o.op.operands.toList,∀ id,oV (ev σ x)=some id->gB (cls o.op) σ.aa[id]? σ2.aa[id]?) ->
   K2 (σ2.put o.dst v)->bF P o σ2 K2:=by
 obtain⟨v,os,h1,h2,h3⟩:=KU hW;simp only[iG,hc,if_true]at h1 h3;subst h1;exact⟨v,h2,λσ2 K2 hx ho hK=>h3 σ2.env σ2.aa _ K2 ⟨hx,ho⟩ rfl hK⟩
end Go.Am

