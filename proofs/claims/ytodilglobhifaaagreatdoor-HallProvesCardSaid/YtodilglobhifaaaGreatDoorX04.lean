import Derived.Test.YtodilglobhifaaaGreatDoorX03
set_option linter.all false
set_option maxHeartbeats 0
set_option maxRecDepth 20000
open Bool renaming and_eq_true→bb
open List renaming mem_cons→cI,mem_of_getElem?→fq,getElem?_map→cm,getElem?_cons_zero→qV,getElem?_append_left→cG,getElem?_set_ne→dz,getElem?_cons_succ→vj,getElem?_append_right→dy,length_cons→cf,eq_nil_of_length_eq_zero→w9,getElem?_eq_some_iff→aN,getD_eq_getElem?_getD→ax,mem_map_of_mem→BC,length_map→eA,mem_map→cF,all_eq_true→eS,map_congr_left→qX
open Option renaming map_eq_some_iff→vn,some→cL,map_some→fN
open Nat renaming lt_or_ge→dr,le_refl→aM
open Array renaming toList_append→BB,getD_eq_getD_getElem?→dJ,getElem?_append_left→yW,getElem?_toList→w7,getElem?_map→EV,getElem?_append_right→Jx
namespace Go.Am
variable {P:Program}
mutual
def aU(ρ:Nat->Nat):AV->AV
 |.ref id sz off len=>.ref (ρ id) sz off len
 |.ptr id r c=>.ptr (ρ id) r c
 |.agg cs=>.agg (mP ρ cs)
 |.bH cs=>.bH (mP ρ cs)
 |.fn f cs=>.fn f (mP ρ cs)
 |.fI t v=>.fI t (aU ρ v)
 |.dP id=>.dP (ρ id)
 |v=>v
def mP(ρ:Nat->Nat):List AV->List AV
 |[]=>[]
 |v::vs=>aU ρ v::mP ρ vs
end
def uD(ρ:Nat->Nat)(l:List AV):mP ρ l=l.map (aU ρ):=by
 induction l with
 |nil=>simp[mP]
 |cons v l ih=>simp[mP,ih]
def bD(ρ:Nat->Nat):Ob->Ob
 |.gone=>.gone
 |.var cs=>.var (cs.map (aU ρ))
 |.arr sz rows=>.arr sz (rows.map (·.map (aU ρ)))
 |.mp ag L=>.mp ag (L.map λp=>(p.1,aU ρ p.2))
mutual
def flat:AV->Bool
 |.tree ..=>false
 |.bU _=>false
 |.agg cs=>xB cs
 |.bH cs=>xB cs
 |.fn _ cs=>xB cs
 |.fI _ v=>flat v
 |_=>true
def xB:List AV->Bool
 |[]=>true
 |v::vs=>flat v&&xB vs
end
def F8{l:List AV}(h:xB l=true):∀ v∈l,flat v=true:=by
 induction l with
 |nil=>intro v hv;simp at hv
 |cons x l ih =>
  simp only[xB,bb]at h;intro v hv;rcases cI.1 hv with rfl|hv
  ·exact h.1
  ·exact ih h.2 v hv
def zx:Ob->Prop
 |.gone=>True
 |.var cs=>∀ v∈cs,flat v=true
 |.arr _ rows=>∀ row∈rows,∀ v∈row,flat v=true
 |.mp _ L=>∀ p∈L,flat p.2=true
def au.W9{os:List Ob}{w:World}{Z Z':Nat->Prop}{blk:fi}{v:AV}{cv:Value}(h:au os w Z blk v cv)(hf:flat v=true):au os w Z' blk v cv:=by
 induction h with
 |undef cv=>exact .undef cv
 |bV v cv h=>cases h<;>first|exact .bV _ _ (.lit _)|simp[flat]at hf
 |bU=>simp[flat]at hf
 |iY id sz off len cv h h1=>exact .iY id sz off len cv h h1
 |kQ id r c cv h h1=>exact .kQ id r c cv h h1
 |ref id sz off len b o cap cap' rows h hb hl hc eK=>exact .ref id sz off len b o cap cap' rows h hb hl hc eK
 |jU id sz h hb=>exact .jU id sz h hb
 |kn id sz off b x bo rows h hb hl=>exact .kn id sz off b x bo rows h hb hl
 |lv id c b cap cells h hb=>exact .lv id c b cap cells h hb
 |ma id r c sz b o cap rows h hb=>exact .ma id r c sz b o cap rows h hb
 |agg cs aR hs _ ih=>simp only[flat]at hf;exact .agg cs aR hs (λj x hx=>ih j x hx (F8 hf x (fq hx)))
 |bH cs aR hs _ ih=>simp only[flat]at hf;exact .bH cs aR hs (λj x hx=>ih j x hx (F8 hf x (fq hx)))
 |fn f cs aR hs _ ih=>simp only[flat]at hf;exact .fn f cs aR hs (λj x hx=>ih j x hx (F8 hf x (fq hx)))
 |fI t v cv _ ih=>simp only[flat]at hf;exact .fI t v cv (ih hf)
 |dP id b ag L h hb=>exact .dP id b ag L h hb
 |oh id cv h h1=>exact .oh id cv h h1
def au.up{os os':List Ob}{w:World}{Z Z':Nat->Prop}{blk iF:fi}{ρ:Nat->Nat}{v:AV}{cv:Value}(h:au os w Z blk v cv)(hz:∀ b,Z b->Z' b)(ho:∀ j o,os[j]?=some o->os'[ρ j]?=some (bD ρ o)/\(o≠.gone->iF (ρ j)=blk j)):au os' w Z' iF (aU ρ v) cv:=by
 induction h with
 |undef cv=>exact .undef cv
 |bV v cv h =>
  have h':au os' w Z' iF v cv:=.bV _ _ (h.mono (λb hb=>⟨hz b hb,rfl⟩));cases h<;>simpa [aU] using h'
 |bU cells b o f pq hc ht=>exact .bU cells b o f (hz b pq) hc (λj x hx=>(ht j x hx).mono (λb hb=>⟨hz b hb,rfl⟩))
 |iY id sz off len cv h h1=>exact .iY _ sz off len cv (ho id _ h).1 h1
 |kQ id r c cv h h1=>exact .kQ _ r c cv (ho id _ h).1 h1
 |ref id sz off len b o cap cap' rows h hb hl hc eK =>
  obtain⟨h1,h2⟩:=ho id _ h;exact .ref _ sz off len b o cap cap' _ h1 ((h2 Jy).trans hb) (by simpa using hl) hc eK
 |jU id sz h hb =>
  obtain⟨h1,h2⟩:=ho id _ h;exact .jU _ sz h1 ((h2 Jy).trans hb)
 |kn id sz off b x bo rows h hb hl =>
  obtain⟨h1,h2⟩:=ho id _ h;exact .kn _ sz off b x bo _ h1 ((h2 Jy).trans hb) (by simpa using hl)
 |lv id c b cap cells h hb =>
  obtain⟨h1,h2⟩:=ho id _ h;exact .lv _ c b cap _ h1 ((h2 Jy).trans hb)
 |ma id r c sz b o cap rows h hb =>
  obtain⟨h1,h2⟩:=ho id _ h;exact .ma _ r c sz b o cap _ h1 ((h2 Jy).trans hb)
 |agg cs aR hs _ ih =>
  simp only[aU,uD];refine .agg _ aR (by simpa using hs) (λj x hx=>?_);simp only[cm,vn]at hx;obtain⟨y,hy,rfl⟩:=hx;exact ih j y hy
 |bH cs aR hs _ ih =>
  simp only[aU,uD];refine .bH _ aR (by simpa using hs) (λj x hx=>?_);simp only[cm,vn]at hx;obtain⟨y,hy,rfl⟩:=hx;exact ih j y hy
 |fn f cs aR hs _ ih =>
  simp only[aU,uD];refine .fn f _ aR (by simpa using hs) (λj x hx=>?_);simp only[cm,vn]at hx;obtain⟨y,hy,rfl⟩:=hx;exact ih j y hy
 |fI t v cv _ ih=>simp only[aU];exact .fI t _ cv ih
 |dP id b ag L h hb =>
  obtain⟨h1,h2⟩:=ho id _ h;exact .dP _ b ag _ h1 ((h2 Jy).trans hb)
 |oh id cv h h1=>exact .oh _ cv (ho id _ h).1 h1
def zB{ρ:Nat->Nat}{o:Ob}:bD ρ o=.gone↔o=.gone:=by cases o<;>simp[bD]
def Ob.Xa{ρ:Nat->Nat}{x y:Ob}(h:x.dj y):(bD ρ x).dj (bD ρ y):=by
 cases x<;>cases y<;>simp[Ob.dj,bD]at h ⊢<;>exact h
def au.down{os os':List Ob}{w:World}{Z Z':Nat->Prop}{blk iF:fi}{ρ:Nat->Nat}{v:AV}{cv:Value}(h:au os w Z blk v cv)(hz:∀ b,Z b->Z' b)(ho:∀ j x,os[ρ j]?=some x->∃ o,os'[j]?=some o/\(o=.gone\/(x=bD ρ o/\iF j=blk (ρ j)))):∀ v',v=aU ρ v'->au os' w Z' iF v' cv:=by
 induction h with
 |undef cv=>intro v' hv;cases v'<;>simp[aU]at hv;exact .undef cv
 |bV v cv h =>
  intro v' hv;have h':au os' w Z' iF v cv:=.bV _ _ (h.mono (λb hb=>⟨hz b hb,rfl⟩));cases h<;>cases v'<;>simp[aU]at hv<;>(first|(subst hv;exact h')|(obtain⟨rfl,rfl⟩:=hv;exact h'))
 |bU cells b o f pq hc ht =>
  intro v' hv;cases v'<;>simp[aU]at hv;subst hv;exact .bU _ b o f (hz b pq) hc (λj x hx=>(ht j x hx).mono (λb hb=>⟨hz b hb,rfl⟩))
 |iY id sz off len cv h h1 =>
  intro v' hv;cases v'<;>simp[aU]at hv;obtain⟨rfl,rfl,rfl,rfl⟩:=hv;obtain⟨o,h2,rfl |⟨h3,_⟩⟩:=ho _ _ h
  ·exact .iY _ _ _ _ cv h2 h1
  ·have:=zB.1 h3.symm;subst this;exact .iY _ _ _ _ cv h2 h1
 |kQ id r c cv h h1 =>
  intro v' hv;cases v'<;>simp[aU]at hv;obtain⟨rfl,rfl,rfl⟩:=hv;obtain⟨o,h2,rfl |⟨h3,_⟩⟩:=ho _ _ h
  ·exact .kQ _ _ _ cv h2 h1
  ·have:=zB.1 h3.symm;subst this;exact .kQ _ _ _ cv h2 h1
 |ref id sz off len b o cap cap' rows h hb hl hc eK =>
  intro v' hv;cases v'<;>simp[aU]at hv;obtain⟨rfl,rfl,rfl,rfl⟩:=hv;obtain⟨x,h2,rfl |⟨h3,h4⟩⟩:=ho _ _ h
  ·exact .iY _ _ _ _ _ h2 rfl
  ·cases x<;>simp[bD]at h3;obtain⟨rfl,rfl⟩:=h3;exact .ref _ _ _ _ b o cap cap' _ h2 (h4.trans hb) (by simpa using hl) hc eK
 |jU id sz h hb =>
  intro v' hv;cases v'<;>simp[aU]at hv;obtain⟨rfl,rfl,rfl,rfl⟩:=hv;obtain⟨x,h2,rfl |⟨h3,h4⟩⟩:=ho _ _ h
  ·exact .iY _ _ _ _ _ h2 rfl
  ·cases x<;>simp[bD]at h3;obtain⟨rfl,h3⟩:=h3;subst h3;exact .jU _ _ h2 (h4.trans hb)
 |kn id sz off b x bo rows h hb hl =>
  intro v' hv;cases v'<;>simp[aU]at hv;obtain⟨rfl,rfl,rfl,rfl⟩:=hv;obtain⟨y,h2,rfl |⟨h3,h4⟩⟩:=ho _ _ h
  ·exact .iY _ _ _ _ _ h2 rfl
  ·cases y<;>simp[bD]at h3;obtain⟨rfl,rfl⟩:=h3;exact .kn _ _ _ b x bo _ h2 (h4.trans hb) (by simpa using hl)
 |lv id c b cap cells h hb =>
  intro v' hv;cases v'<;>simp[aU]at hv;obtain⟨rfl,rfl,rfl⟩:=hv;obtain⟨y,h2,rfl |⟨h3,h4⟩⟩:=ho _ _ h
  ·exact .kQ _ _ _ _ h2 rfl
  ·cases y<;>simp[bD]at h3;exact .lv _ _ b cap _ h2 (h4.trans hb)
 |ma id r c sz b o cap rows h hb =>
  intro v' hv;cases v'<;>simp[aU]at hv;obtain⟨rfl,rfl,rfl⟩:=hv;obtain⟨y,h2,rfl |⟨h3,h4⟩⟩:=ho _ _ h
  ·exact .kQ _ _ _ _ h2 rfl
  ·cases y<;>simp[bD]at h3;obtain⟨rfl,rfl⟩:=h3;exact .ma _ _ _ _ b o cap _ h2 (h4.trans hb)
 |agg cs aR hs _ ih =>
  intro v' hv;cases v'<;>simp[aU,uD]at hv;rename_i oo;subst hv;exact .agg _ aR (by simpa using hs) (λj x hx=>ih j (aU ρ x) (by simp[hx]) x rfl)
 |bH cs aR hs _ ih =>
  intro v' hv;cases v'<;>simp[aU,uD]at hv;rename_i oo;subst hv;exact .bH _ aR (by simpa using hs) (λj x hx=>ih j (aU ρ x) (by simp[hx]) x rfl)
 |fn f cs aR hs _ ih =>
  intro v' hv;cases v'<;>simp[aU,uD]at hv;obtain⟨rfl,hv⟩:=hv;subst hv;exact .fn _ _ aR (by simpa using hs) (λj x hx=>ih j (aU ρ x) (by simp[hx]) x rfl)
 |fI t v cv _ ih =>
  intro v' hv;cases v'<;>simp[aU]at hv;obtain⟨rfl,hv⟩:=hv;exact .fI _ _ cv (ih _ hv)
 |dP id b ag L h hb =>
  intro v' hv;cases v'<;>simp[aU]at hv;subst hv;obtain⟨y,h2,rfl |⟨h3,h4⟩⟩:=ho _ _ h
  ·exact .oh _ _ h2 rfl
  ·cases y<;>simp[bD]at h3;obtain⟨rfl,h3⟩:=h3;exact .dP _ b _ _ h2 (h4.trans hb)
 |oh id cv h h1 =>
  intro v' hv;cases v'<;>simp[aU]at hv;subst hv;obtain⟨y,h2,rfl |⟨h3,h4⟩⟩:=ho _ _ h
  ·exact .oh _ _ h2 h1
  ·exact .oh _ _ (by rw[h2,zB.1 h3.symm]) h1
def Pe(P : Program)(f : FuncId): Prop := ∃ fn, P.funcs[f]? = some fn /\ (fn.name == "runtime.NumGoroutine") = false /\ fn.body.isNone = false
def ak(P:Program)(f:FuncId)(args:List AV)(aa:List Ob)(res:AV)(aZ:List Ob):Prop :=
 Pe P f/\∀ γ:Cx,γ.tmps.size=args.length->ba ⟨λk=>args.getD k .undef,aa⟩ γ ->
  Calls P f γ.tmps γ.w (λe w'=>∃ cv ay,e=.returned cv/\ay.w=w'/\ay.tmps = #[cv]/\ba ⟨λk=>[res].getD k .undef,aZ⟩ ay/\Fr aa γ aZ ay)
inductive df(σ:St)(kp:Nat->Prop):AV->AV->Prop
 |lit (x:Value):df σ kp (.lit x) (.lit x)
 |tree (s:Nat) (r:List (List AV)):df σ kp (.tree s r) (.tree s r)
 |nil (sz:Nat):df σ kp (.tree sz []) (.lit (.slice none 0 0))
 |ref (id sz off len:Nat) (rows fh:List (List AV)) (g:Nat->Nat->AV) (ho:σ.aa[id]?=some (.arr sz rows)) (ph:¬ kp id) (hl:fh.length=((rows.drop off).take len).length) (hw:∀ row∈fh,row.length=sz)
   (h1:∀ r c v,cellAt fh r c=some v->cellAt ((rows.drop off).take len) r c=some (g r c)) (h2:∀ r c v,cellAt fh r c=some v->df σ kp v (g r c)):df σ kp (.tree sz fh) (.ref id sz off len)
inductive bt(σ:St)(kp:Nat->Prop)(ρ:Nat->Nat)(snap:Bool):AV->AV->Prop
 |same (v:AV):bt σ kp ρ snap v (aU ρ v)
 |snap (c d:AV) (hs:snap=true) (h:df σ kp c d):bt σ kp ρ snap c d
 |agg (cs ds:List AV) (hl:cs.length=ds.length) (h:∀ (j:Nat) c d,cs[j]?=some c->ds[j]?=some d->bt σ kp ρ snap c d):bt σ kp ρ snap (.agg cs) (.agg ds)
 |bH (cs ds:List AV) (hl:cs.length=ds.length) (h:∀ (j:Nat) c d,cs[j]?=some c->ds[j]?=some d->bt σ kp ρ snap c d):bt σ kp ρ snap (.bH cs) (.bH ds)
def bu(n:Nat)(ae:List Nat)(j:Nat):Nat:=if j<ae.length then ae.getD j 0 else n+(j-ae.length)
def eU(aa:List Ob):List Nat->List Ob->List Ob
 |i::ae,o::new=>eU (aa.set i o) ae new
 |[],new=>aa++new
 |_::_,[]=>aa
def F6(ae:List Nat):∀ (aa new:List Ob),ae.length<=new.length->(eU aa ae new).length=aa.length+(new.length-ae.length):=by
 induction ae with
 |nil=>intro aa new _;simp[eU]
 |cons i ae ih =>
  intro aa new h;cases new with
  |nil=>simp at h
  |cons o new=>simp only[eU];rw[ih _ _ (by simpa using h)];simp
def CE(ae:List Nat):∀ (aa new:List Ob),ae.length<=new.length->ae.Nodup->(∀ i∈ae,i<aa.length)->∀ j,j<ae.length->(eU aa ae new)[ae.getD j 0]?=new[j]?:=by
 induction ae with
 |nil=>intro aa new _ _ _ j hj;simp at hj
 |cons i ae ih =>
  intro aa new h hn hl j hj;cases new with
  |nil=>simp at h
  |cons o new =>
   simp only[eU];rw[List.nodup_cons]at hn;have hi:=hl i Jy;have h':ae.length<=new.length:=by simpa using h
   cases j with
   |zero =>
    simp only[List.getD_cons_zero,qV];have key:∀ (ae:List Nat) (aa new:List Ob),ae.length<=new.length->i ∉ ae->i<aa.length->(eU aa ae new)[i]?=aa[i]?:=by
     intro ae
     induction ae with
     |nil=>intro aa new _ _ hi;simp only[eU];rw[cG hi]
     |cons k ae Xf =>
      intro aa new h rF hi;cases new with
      |nil=>simp at h
      |cons o new =>
       simp only[cI,not_or]at rF;simp only[eU];rw[Xf _ _ (by simpa using h) rF.2 (by simpa using hi),dz (Ne.symm rF.1)]
    rw[key ae _ _ h' hn.1 (by simpa using hi)];simp[hi]
   |succ j =>
    simp only[List.getD_cons_succ,vj];exact ih _ _ h' hn.2 (λk hk=>by simpa using hl k (by simp[hk])) j (by simpa using hj)
def CF(ae:List Nat):∀ (aa new:List Ob),ae.length<=new.length->∀ i,i ∉ ae->i<aa.length->(eU aa ae new)[i]?=aa[i]?:=by
 induction ae with
 |nil=>intro aa new _ i _ hi;simp only[eU];rw[cG hi]
 |cons k ae ih =>
  intro aa new h i rF hi;cases new with
  |nil=>simp at h
  |cons o new =>
   simp only[cI,not_or]at rF;simp only[eU];rw[ih _ _ (by simpa using h) i rF.2 (by simpa using hi),dz (Ne.symm rF.1)]
def Pa(ae:List Nat):∀ (aa new:List Ob),ae.length<=new.length->∀ m,(eU aa ae new)[aa.length+m]?=new[ae.length+m]?:=by
 induction ae with
 |nil=>intro aa new _ m;simp only[eU];rw[dy Bv];simp
 |cons k ae ih =>
  intro aa new h m;cases new with
  |nil=>simp at h
  |cons o new =>
   simp only[eU];have:=ih (aa.set k o) new (by simpa using h) m;simp only[List.length_set]at this;rw[this];simp only[cf];have e:ae.length+1+m=(ae.length+m)+1:=Bv;rw[e];simp
end Go.Am
namespace Go.Am
variable {P:Program}
def CG(P:Program)(f:FuncId)(args:List AV)(σ:St)(K:AV->St->Prop):Prop :=
 ∃ (ae:List Nat) (snap:Bool) (dF:List AV) (bA:List Ob) (res:AV) (cA:List Ob),ak P f dF bA res cA /\
  (ae.Nodup/\bA.length=ae.length/\(∀ (j:Nat) o,bA[j]?=some o->σ.aa[ae.getD j 0]?=some (bD (bu σ.aa.length ae) o)) /\
   dF.length=args.length/\(∀ (j:Nat) c d,dF[j]?=some c->args[j]?=some d->bt σ (·∈ae) (bu σ.aa.length ae) snap c d) /\
   (snap=true->flat res=true/\∀ o∈cA,zx o)) /\
  K (aU (bu σ.aa.length ae) res) { σ with aa:=eU σ.aa ae (cA.map (bD (bu σ.aa.length ae))) }
def df.xr{σ:St}{γ:Cx}(h:ba σ γ){kp:Nat->Prop}{γc:Cx}(hz:∀ b,γ.Z b->γc.Z b)(hw:γc.w=γ.w)(F9:∀ id b o cap,¬ kp id->Live σ.aa id->γ.blk id=some (b,o,cap)->γc.Z b){c d:AV}(ha:df σ kp c d):∀ cv,au σ.aa γ.w γ.Z γ.blk d cv->fK γc.w γc.Z c cv:=by
 induction ha with
 |lit x=>intro cv hv;rw[hv.bX];exact .lit x
 |tree s r=>intro cv hv;exact hv.xC.mono (λb hb=>⟨hz b hb,by rw[hw]⟩)
 |nil sz=>intro cv hv;rw[hv.bX];exact .nil sz 0 none
 |ref id sz off len rows fh g a9 ph hl0 Cr dg dc ih =>
  intro cv hv;obtain⟨h0,dK,Xj⟩:=h.dQ id _ a9;have bI:Live σ.aa id:=⟨_,a9,Jy⟩;cases hv with
  |bV _ _ h=>cases h
  |iY _ _ _ _ _ h=>rw[a9]at h;simp at h
  |jU _ _ h' hb =>
   have:fh=[]:=w9 (by simpa using hl0);subst this;exact fK.nil sz 0 none
  |kn _ _ _ b x bo Xm h' hb hl =>
   have:fh=[]:=w9 (by simpa using hl0);subst this;exact fK.nil sz 0 (some ⟨b,x,none⟩)
  |ref _ _ _ _ b o cap cap' Xm h' hb hl hc eK =>
   rw[a9]at h';simp at h';subst h';rcases Xj with⟨h1,_⟩|⟨b',o',zC,cur,t,h1,h2,h3,h4,h5,h6⟩
   ·rw[hb]at h1;simp at h1
   ·rw[hb]at h1;simp at h1;obtain⟨rfl,rfl,rfl⟩:=h1;have hlen:((rows.drop off).take len).length=len:=aak;have rG:∀ r c v,cellAt ((rows.drop off).take len) r c=some v->cellAt rows (off+r) c=some v/\r<len:=by
     intro r c v hv;simp only[cellAt,List.getElem?_take,List.getElem?_drop]at hv;split at hv
     ·exact⟨hv,by assumption⟩
     ·simp at hv
    have Ga:γc.Z b:=F9 id b o cap ph bI hb;have:=fK.tree (w:=γc.w) (Z:=γc.Z) sz fh b (o+off*sz) cap' (λr c=>cur.getD (o+((off+r)*sz+c)) Go.undef) Ga
     Cr (by rw[hl0,hlen];exact eK)
     (λr c v hv=>by
      obtain⟨qh,hr⟩:=rG r c _ (dg r c v hv);obtain⟨nJ,sY⟩:=zD dK qh;have bq:=vL (show off+r<cap by omega) sY;rw[hw];have e:o+off*sz+(r*sz+c)=o+((off+r)*sz+c):=by rw[Nat.add_mul];omega
      rw[e];exact xD h2 Bv)
     (λr c v hv=>by
      obtain⟨qh,_⟩:=rG r c _ (dg r c v hv);exact ih r c v hv _ (h6 _ _ _ qh))
    rw[hl0,hlen]at this;exact this
def bt.rel{σ:St}{γ:Cx}(h:ba σ γ){kp:Nat->Prop}{ρ:Nat->Nat}{bA:List Ob}{snap:Bool}{γc:Cx}(hz:∀ b,γ.Z b->γc.Z b)(hw:γc.w=γ.w)(F9:snap=true->∀ id b o cap,¬ kp id->Live σ.aa id->γ.blk id=some (b,o,cap)->γc.Z b)(ho:∀ j x,σ.aa[ρ j]?=some x->∃ o,bA[j]?=some o/\(o=.gone\/(x=bD ρ o/\γc.blk j=γ.blk (ρ j)))){c d:AV}(ha:bt σ kp ρ snap c d):∀ cv,au σ.aa γ.w γ.Z γ.blk d cv->au bA γc.w γc.Z γc.blk c cv:=by
 induction ha with
 |same v =>
  intro cv hv;rw[hw];exact hv.down hz ho v rfl
 |snap c d hs hf =>
  intro cv hv;exact .bV _ _ (hf.xr h hz hw (F9 hs) cv hv)
 |agg cs ds hl _ ih =>
  intro cv hv;obtain⟨aR,rfl,h1,h2⟩:=hv.Pf;refine .agg cs aR Bv (λj x hx=>?_);have hj:j<ds.length:=by have:=(aN.1 hx).1;omega
  exact ih j x ds[j] hx (by simp[hj]) _ (h2 j _ (by simp[hj]))
 |bH cs ds hl _ ih =>
  intro cv hv;obtain⟨aR,rfl,h1,h2⟩:=hv.Pg;refine .bH cs aR Bv (λj x hx=>?_);have hj:j<ds.length:=by have:=(aN.1 hx).1;omega
  exact ih j x ds[j] hx (by simp[hj]) _ (h2 j _ (by simp[hj]))
def Ph{n:Nat}{ae:List Nat}(_hs:∀ i∈ae,i<n){j:Nat}(h:bu n ae j<n):j<ae.length/\bu n ae j=ae.getD j 0:=by
 unfold bu at h ⊢;split
 ·exact⟨by assumption,rfl⟩
 ·rename_i hj;rw[if_neg hj]at h;omega
def aF{ae:List Nat}{j:Nat}(h:j<ae.length):ae.getD j 0∈ae:=by
 rw[ax];simp[h]
def Pj{ae:List Nat}(hn:ae.Nodup){i j:Nat}(hi:i<ae.length)(hj:j<ae.length)(h:ae.getD i 0=ae.getD j 0):i=j:=by
 rw[ax,ax]at h;simp[hi,hj]at h;exact(List.getElem_inj hn).1 h
def CH{ae:List Nat}{i:Nat}(h:i∈ae):∃j,j<ae.length/\ae.getD j 0=i:=by
 obtain⟨j,hj⟩:=List.mem_iff_getElem?.1 h;have:=(aN.1 hj).1;exact⟨j,this,by rw[ax,hj];rfl⟩
def di(P:Program)(f:FuncId)(args:List AV)(aa:List Ob)(fA:AV->List Ob->Prop):Prop :=
 Pe P f/\∀ γ:Cx,γ.tmps.size=args.length->ba ⟨λk=>args.getD k .undef,aa⟩ γ ->
  Calls P f γ.tmps γ.w (λe w'=>∃ res aZ cv ay,fA res aZ/\e=.returned cv/\ay.w=w'/\ay.tmps = #[cv]/\ba ⟨λk=>[res].getD k .undef,aZ⟩ ay/\Fr aa γ aZ ay)
def FL(P:Program)(f:FuncId)(args:List AV)(σ:St)(K:AV->St->Prop):Prop :=
 ∃ (ae:List Nat) (snap:Bool) (dF:List AV) (bA:List Ob) (fA:AV->List Ob->Prop),di P f dF bA fA /\
  (ae.Nodup/\bA.length=ae.length/\(∀ (j:Nat) o,bA[j]?=some o->σ.aa[ae.getD j 0]?=some (bD (bu σ.aa.length ae) o)) /\
   dF.length=args.length/\(∀ (j:Nat) c d,dF[j]?=some c->args[j]?=some d->bt σ (·∈ae) (bu σ.aa.length ae) snap c d)) /\
  ∀ res cA,fA res cA->(snap=true->flat res=true/\∀ o∈cA,zx o) /\
   K (aU (bu σ.aa.length ae) res) { σ with aa:=eU σ.aa ae (cA.map (bD (bu σ.aa.length ae))) }
def FN{σ:St}{γ:Cx}(h:ba σ γ){f:FuncId}{args:List AV}{argv:Array Value}(aH:argv.size=args.length)(Gb:∀ (j:Nat) d,args[j]?=some d->au σ.aa γ.w γ.Z γ.blk d (argv.getD j Go.undef)){K:AV->St->Prop}(hc:FL P f args σ K):
  Calls P f argv γ.w (λe w'=>∃ cv v σ' ay,e=.returned cv/\ay.w=w'/\ay.tmps=γ.tmps/\ba σ' ay/\Fr σ.aa γ σ'.aa ay/\au σ'.aa ay.w ay.Z ay.blk v cv/\K v σ'/\σ'.env=σ.env):=by
 obtain⟨ae,snap,dF,bA,fA,hH,⟨cp,cz,qn,fS,kj⟩,Xp⟩:=hc;have ij:∀ i∈ae,i<σ.aa.length:=by
  intro i hi;obtain⟨j,hj,rfl⟩:=CH hi;have:j<bA.length:=Bv;exact(aN.1 (qn j bA[j] (by simp[this]))).1
 let ρ:=bu σ.aa.length ae
 let S:Nat->Prop:=λb=>snap=true/\∃ id o cap,id ∉ ae/\Live σ.aa id/\γ.blk id=some (b,o,cap)
 let γc:Cx:={ w:=γ.w,tmps:=argv,Z:=λb=>γ.Z b\/S b,blk:=λj=>if j<ae.length then γ.blk (ae.getD j 0) else none }
 have sZ:∀ j x,σ.aa[ρ j]?=some x->∃ o,bA[j]?=some o/\(o=.gone\/(x=bD ρ o/\γc.blk j=γ.blk (ρ j))):=by
  intro j x hx;obtain⟨hj,hr⟩:=Ph ij (aN.1 hx).1;have jr:j<bA.length:=Bv;have:=qn j bA[j] (by simp[jr]);refine⟨bA[j],by simp[jr],.inr ⟨?_,?_⟩⟩
  ·have bR:σ.aa[bu σ.aa.length ae j]?=some x:=hx;rw[hr,this]at bR;simpa using bR.symm
  ·show(if j<ae.length then γ.blk (ae.getD j 0) else none)=γ.blk (bu σ.aa.length ae j);rw[if_pos hj,hr]
 have gP:∀ b,γ.Z b->γc.Z b:=λb hb=>.inl hb;have rH:∀ j,Live bA j->Live σ.aa (ae.getD j 0)/\j<ae.length:=by
  rintro j⟨o,ho,hg⟩;have hj:=(aN.1 ho).1;exact⟨⟨_,qn j o ho,λe=>hg (zB.1 e)⟩,Bv⟩
 have rI:=λ{i b o c}=>h.blt (i:=i) (b:=b) (o:=o) (c:=c);have Gc:ba ⟨λk=>dF.getD k .undef,bA⟩ γc:=by
  refine⟨λk=>?_,?_,?_,?_,?_,λg=>vH (h.gl g) λb hb=>⟨gP b hb,rfl⟩⟩
  ·rcases dr k dF.length with hk|hk
   ·have e:dF.getD k .undef=dF[k]:=by simp[hk]
    show au bA γc.w γc.Z γc.blk (dF.getD k .undef) _;rw[e];have zE:k<args.length:=Bv;exact(kj k dF[k] args[k] (by simp[hk]) (by simp[zE])).rel h gP rfl (λhs id b o cap cO hl hb=>.inr ⟨hs,id,o,cap,cO,hl,hb⟩) sZ _ (Gb k _ (by simp[zE]))
   ·have e:dF.getD k .undef=.undef:=by simp[hk]
    show au bA γc.w γc.Z γc.blk (dF.getD k .undef) _;rw[e];exact .undef _
  ·intro j o ho;have hj:=(aN.1 ho).1;have zF:j<ae.length:=by rw[<- cz];exact hj
   have a9:=h.dQ _ _ (qn j o ho);have hb:γc.blk j=γ.blk (ae.getD j 0):=by show(if j<ae.length then _ else _)=_;rw[if_pos zF]
   cases o with
   |gone=>trivial
   |var cells =>
    obtain⟨b,cap,cur,t,h1,h2,h3,h4⟩:=a9;exact⟨b,cap,cur,t,hb.trans h1,h2,by simpa using h3,λc v hv=>(h4 c (aU ρ v) (by simp[hv];rfl)).down gP sZ v rfl⟩
   |mp ag L =>
    obtain⟨b,f,h1,h2,h3,h4⟩:=a9;refine⟨b,f,hb.trans h1,?_,λp hp=>h3 (p.1,aU ρ p.2) (BC (f:=λp:List Int×AV=>(p.1,aU ρ p.2)) hp),λj p hp=>(h4 j (p.1,aU ρ p.2) (by simp only[cm,hp];rfl)).down gP sZ p.2 rfl⟩;rw[Gd,eA]at h2;exact h2
   |arr sz rows =>
    obtain⟨h0,hr,a9⟩:=a9;refine⟨h0,λrow bf=>by simpa using hr (row.map (aU ρ)) (BC bf),?_⟩;rcases a9 with⟨h1,h2⟩|⟨b,o,cap,cur,t,h1,h2,h3,h4,h5,h6⟩
    ·exact .inl ⟨hb.trans h1,by simpa using h2⟩
    ·refine .inr ⟨b,o,cap,cur,t,hb.trans h1,h2,h3,by simpa using h4,h5,λr c v hv=>(h6 r c (aU ρ v) ?_).down gP sZ v rfl⟩;simp only[cellAt,cm]at hv ⊢;cases iZ:rows[r]? with
     |none=>simp[iZ]at hv
     |some row=>simp[iZ]at hv ⊢;exact⟨v,hv,rfl⟩
  ·intro i j b o c o' c' hi hj eW fB;obtain⟨h1,h2⟩:=rH i hi;obtain⟨h3,h4⟩:=rH j hj;have e1:γc.blk i=γ.blk (ae.getD i 0):=by show(if i<ae.length then _ else _)=_;rw[if_pos h2]
   have e2:γc.blk j=γ.blk (ae.getD j 0):=by show(if j<ae.length then _ else _)=_;rw[if_pos h4]
   exact Pj cp h2 h4 (h.inj _ _ b o c o' c' h1 h3 (e1▸eW) (e2▸fB))
  ·rintro b ⟨i,o,c,hi,hb⟩ hz;obtain⟨h1,h2⟩:=rH i hi;have e1:γc.blk i=γ.blk (ae.getD i 0):=by show(if i<ae.length then _ else _)=_;rw[if_pos h2]
   rw[e1]at hb;rcases hz with hz|⟨_,id,o',cap',cO,hl,bO⟩
   ·exact h.nz b ⟨_,o,c,h1,hb⟩ hz
   ·have:=h.inj _ _ b o c o' cap' h1 hl hb bO;exact cO (this▸aF h2)
  ·rintro b (hb|⟨_,id,o,cap,_,hl,hb⟩)
   ·exact h.fY b hb
   ·exact rI hl hb
 have fX:=hH.2 γc (by show argv.size=_;omega) Gc;refine fX.mono ?_;rintro e w'⟨res,cA,cv,ay,FK,rfl,rfl,Ge,gM,dU⟩;obtain⟨Pk,hK⟩:=Xp res cA FK;have Xt:ae.length<=cA.length:=by have:=dU.len;omega
 let new:=cA.map (bD ρ)
 have an:ae.length<=new.length:=by simpa [new] using Xt
 let mZ:=eU σ.aa ae new
 let gN:Cx:={ w:=ay.w,tmps:=γ.tmps,Z:=λb=>ay.Z b/\¬ S b,blk:=λi=>if i<σ.aa.length then γ.blk i else ay.blk (ae.length+(i-σ.aa.length)) }
 have zG:∀ j o,cA[j]?=some o->mZ[ρ j]?=some (bD ρ o)/\(o≠.gone->gN.blk (ρ j)=ay.blk j):=by
  intro j o ho;by_cases hj:j<ae.length
  ·have e:ρ j=ae.getD j 0:=by show bu _ _ _=_;simp only[bu];rw[if_pos hj]
   have bP:=ij _ (aF hj);refine⟨?_,λhg=>?_⟩
   ·rw[e];show(eU σ.aa ae new)[ae.getD j 0]?=_;rw[CE ae σ.aa new an cp ij j hj];simp[new,ho]
   ·rw[e];show(if ae.getD j 0<σ.aa.length then _ else _)=_;rw[if_pos bP];have:=(dU.jn j Bv ⟨o,ho,hg⟩).1;rw[this];show _=if j<ae.length then _ else _;rw[if_pos hj]
  ·have e:ρ j=σ.aa.length+(j-ae.length):=by show bu _ _ _=_;simp only[bu];rw[if_neg hj]
   have e2:ae.length+(j-ae.length)=j:=Bv;refine⟨?_,λhg=>?_⟩
   ·rw[e];show(eU σ.aa ae new)[_]?=_;rw[Pa ae σ.aa new an,e2];simp[new,ho]
   ·rw[e];show(if σ.aa.length+(j-ae.length)<σ.aa.length then _ else ay.blk (ae.length+(σ.aa.length+(j-ae.length)-σ.aa.length)))=_;rw[if_neg Bv];congr 1;omega
 have Pm:∀ b,S b->¬ γ.Z b:=by
  rintro b⟨_,id,o,cap,_,hl,hb⟩;exact h.nz b ⟨id,o,cap,hl,hb⟩
 have xE:∀ b,m4 bA γc.blk b->∃ i∈ae,∃ o cap,Live σ.aa i/\γ.blk i=some (b,o,cap):=by
  rintro b⟨j,o,c,hl,hb⟩;obtain⟨h1,h2⟩:=rH j hl;have e1:γc.blk j=γ.blk (ae.getD j 0):=by show(if j<ae.length then _ else _)=_;rw[if_pos h2]
  exact⟨_,aF h2,o,c,h1,e1▸hb⟩
 have XA:∀ i,i ∉ ae->Live σ.aa i->∀ b o c,γ.blk i=some (b,o,c)->ay.w.heap[b]?=γ.w.heap[b]?:=by
  intro i hi hl b o c hb;refine dU.cW b (rI hl hb) (λho=>?_);obtain⟨i',hi',o',c',iX,bO⟩:=xE b ho;have:=h.inj _ _ b o c o' c' hl iX hb bO;exact hi (this▸hi')
 have Gf:∀ v cv,au σ.aa γ.w γ.Z γ.blk v cv->au mZ gN.w gN.Z gN.blk v cv:=by
  intro v cv hv;refine hv.mono (λb hb=>⟨⟨dU.z0 b (gP b hb),λhs=>Pm b hs hb⟩,?_⟩) (λi o ho=>?_)
  ·refine dU.cW b (h.fY b hb) (λho=>?_);obtain⟨i',_,o',c',iX,bO⟩:=xE b ho;exact h.nz b ⟨i',o',c',iX,bO⟩ hb
  ·have hi:=(aN.1 ho).1;have eP:gN.blk i=γ.blk i:=by show(if i<σ.aa.length then _ else _)=_;rw[if_pos hi]
   by_cases ly:i∈ae
   ·obtain⟨j,hj,rfl⟩:=CH ly;have jr:j<cA.length:=Bv;have vM:mZ[ae.getD j 0]?=some (bD ρ cA[j]):=by
     show(eU σ.aa ae new)[ae.getD j 0]?=_;rw[CE ae σ.aa new an cp ij j hj];simp[new,jr]
    by_cases hg:cA[j]=.gone
    ·left;rw[vM,hg];rfl
    ·right;refine⟨eP,_,vM,?_⟩;obtain⟨_,x,x',hx,bR,jC⟩:=dU.jn j Bv ⟨cA[j],by simp[jr],hg⟩;have e1:cA[j]=x':=by simpa [jr] using bR
     have e2:=qn j x hx;rw[ho]at e2;simp at e2;rw[e1,e2];exact Ob.Xa jC
   ·have vM:mZ[i]?=some o:=by
     show(eU σ.aa ae new)[i]?=_;rw[CF ae σ.aa new an i ly hi];exact ho
    by_cases hg:o=.gone
    ·subst hg;exact .inl vM
    ·exact .inr ⟨eP,o,vM,Ob.iC hg⟩
 have CJ:∀ v cv,au cA ay.w ay.Z ay.blk v cv->(snap=true->flat v=true)->au mZ gN.w gN.Z gN.blk (aU ρ v) cv:=by
  intro v cv hv eX;by_cases ik:snap=true
  ·exact(hv.W9 (Z':=gN.Z) (eX ik)).up (λb hb=>hb) zG
  ·exact hv.up (λb hb=>⟨hb,λhs=>ik hs.1⟩) zG
 have kR:∀ i,Live mZ i->(i<σ.aa.length/\i ∉ ae/\Live σ.aa i/\gN.blk i=γ.blk i)\/∃ j,Live cA j/\i=ρ j/\gN.blk i=ay.blk j:=by
  rintro i⟨o,ho,hg⟩;have hlen:=(aN.1 ho).1;have jq:mZ.length=σ.aa.length+(new.length-ae.length):=F6 ae σ.aa new an;have Pn:new.length=cA.length:=by simp[new]
  rcases dr i σ.aa.length with hi|hi
  ·by_cases ly:i∈ae
   ·right;obtain⟨j,hj,rfl⟩:=CH ly;have jr:j<cA.length:=Bv;have e:ρ j=ae.getD j 0:=by show bu _ _ _=_;simp only[bu];rw[if_pos hj]
    have hx:=zG j cA[j] (by simp[jr]);rw[e]at hx;rw[ho]at hx;simp only[cL.injEq]at hx;have bB:cA[j]≠.gone:=by intro h0;apply hg;rw[hx.1,h0];rfl
    exact⟨j,⟨_,by simp[jr],bB⟩,e.symm,hx.2 bB⟩
   ·left;have:mZ[i]?=σ.aa[i]?:=CF ae σ.aa new an i ly hi;rw[this]at ho;exact⟨hi,ly,⟨o,ho,hg⟩,by show(if i<σ.aa.length then _ else _)=_;rw[if_pos hi]⟩
  ·right;have jr:ae.length+(i-σ.aa.length)<cA.length:=Bv;have e:ρ (ae.length+(i-σ.aa.length))=i:=by
    show bu _ _ _=_;simp only[bu];rw[if_neg Bv];omega
   have hx:=zG _ _ (show cA[ae.length+(i-σ.aa.length)]?=some cA[ae.length+(i-σ.aa.length)] by simp[jr]);rw[e]at hx;rw[ho]at hx;simp only[cL.injEq]at hx;have bB:cA[ae.length+(i-σ.aa.length)]≠.gone:=by intro h0;apply hg;rw[hx.1,h0];rfl
   exact⟨_,⟨_,by simp[jr],bB⟩,e.symm,hx.2 bB⟩
 have Gg:∀ j b o c,Live cA j->ay.blk j=some (b,o,c)->(∃ i∈ae,∃ o cap,Live σ.aa i/\γ.blk i=some (b,o,cap))\/γ.w.heap.size<=b:=by
  intro j b o c hl hb;rcases dU.own b ⟨j,o,c,hl,hb⟩ with h1|h1
  ·exact .inl (xE b h1)
  ·exact .inr h1
 have XB:ba ⟨σ.env,mZ⟩ gN:=by
  refine⟨λk=>Gf _ _ (h.ao k),?_,?_,?_,?_,λg=>Gf _ _ (h.gl g)⟩
  ·intro i o ho;by_cases bS:o=.gone
   ·subst bS;trivial
   rcases kR i ⟨o,ho,bS⟩ with⟨hi,ly,hl,eP⟩|⟨j,⟨x,hx,dZ⟩,rfl,eP⟩
   ·have he:mZ[i]?=σ.aa[i]?:=CF ae σ.aa new an i ly hi;have cD:σ.aa[i]?=some o:=by rw[<- he];exact ho
    exact(h.dQ i o cD).mono Gf eP (λb o c hb=>XA i ly hl b o c hb)
   ·have vN:=(zG j x hx).1;have e:o=bD ρ x:=by
     have:mZ[ρ j]?=some o:=ho;rw[vN]at this;simpa using this.symm
    subst e;have a9:=gM.dQ j x hx;have eX:snap=true->zx x:=λhs=>(Pk hs).2 x (fq hx);cases x with
    |gone=>trivial
    |var cells =>
     obtain⟨b,cap,cur,t,h1,h2,h3,h4⟩:=a9;refine⟨b,cap,cur,t,eP.trans h1,h2,by simpa using h3,λc v hv=>?_⟩;simp only[cm,vn]at hv;obtain⟨y,hy,rfl⟩:=hv;exact CJ _ _ (h4 c y hy) (λhs=>eX hs y (fq hy))
    |mp ag L =>
     obtain⟨b,f,h1,h2,h3,h4⟩:=a9;refine⟨b,f,eP.trans h1,?_,λp hp=>?_,λj p hp=>?_⟩
     ·rw[Gd,eA];exact h2
     ·obtain⟨y,hy,rfl⟩:=cF.1 hp;exact h3 y hy
     ·simp only[cm,vn]at hp;obtain⟨y,hy,rfl⟩:=hp;exact CJ _ _ (h4 j y hy) (λhs=>eX hs y (fq hy))
    |arr sz rows =>
     obtain⟨h0,hr,a9⟩:=a9;refine⟨h0,?_,?_⟩
     ·intro row bf;simp only[cF]at bf;obtain⟨y,hy,rfl⟩:=bf;simpa using hr y hy
     ·rcases a9 with⟨h1,h2⟩|⟨b,o,cap,cur,t,h1,h2,h3,h4,h5,h6⟩
      ·exact .inl ⟨eP.trans h1,by simpa using h2⟩
      ·refine .inr ⟨b,o,cap,cur,t,eP.trans h1,h2,h3,by simpa using h4,h5,λr c v hv=>?_⟩;simp only[cellAt,cm]at hv;cases iZ:rows[r]? with
       |none=>simp[iZ]at hv
       |some row =>
        simp only[iZ,fN,Option.bind_some,cm,vn]at hv;obtain⟨y,hy,rfl⟩:=hv;exact CJ _ _ (h6 r c y (by simp[cellAt,iZ,hy])) (λhs=>eX hs row (fq iZ) y (fq hy))
  ·intro i j b o c o' c' hi hj eW fB;rcases kR i hi with⟨ou,ly,pt,eP⟩|⟨ji,eQ,rfl,eP⟩<;>rcases kR j hj with⟨fF,zF,CK,zH⟩|⟨jj,Po,rfl,zH⟩
   ·exact h.inj i j b o c o' c' pt CK (eP▸eW) (zH▸fB)
   ·rw[eP]at eW;rw[zH]at fB;rcases Gg jj b o' c' Po fB with⟨i',hi',o1,c1,iX,bO⟩|jT
    ·exact absurd (h.inj i i' b o c o1 c1 pt iX eW bO) (λe=>ly (e▸hi'))
    ·have:=rI pt eW;omega
   ·rw[eP]at eW;rw[zH]at fB;rcases Gg ji b o c eQ eW with⟨i',hi',o1,c1,iX,bO⟩|jT
    ·exact absurd (h.inj j i' b o' c' o1 c1 CK iX fB bO) (λe=>zF (e▸hi'))
    ·have:=rI CK fB;omega
   ·rw[eP]at eW;rw[zH]at fB;rw[gM.inj ji jj b o c o' c' eQ Po eW fB]
  ·rintro b ⟨i,o,c,hi,hb⟩ ⟨hz,zI⟩;rcases kR i hi with⟨ou,ly,pt,eP⟩|⟨ji,eQ,rfl,eP⟩
   ·rw[eP]at hb;rcases dU.z1 b hz with(h1|h1)|h1|h1
    ·exact h.nz b ⟨i,o,c,pt,hb⟩ h1
    ·exact zI h1
    ·obtain⟨i',hi',o1,c1,iX,bO⟩:=xE b h1;exact ly ((h.inj i i' b o c o1 c1 pt iX hb bO)▸hi')
    ·have:=rI pt hb;have s0:γ.w.heap.size<=b:=h1;omega
   ·rw[eP]at hb;exact gM.nz b ⟨ji,o,c,eQ,hb⟩ hz
  ·rintro b ⟨hz,_⟩;exact gM.fY b hz
 refine⟨cv,aU ρ res,⟨σ.env,mZ⟩,gN,rfl,rfl,rfl,XB,?_,?_,hK,rfl⟩
 ·refine⟨dU.kl,dU.tape,dU.output,dU.size,?_,?_,?_,?_,?_,?_⟩
  ·intro b hb lz;refine dU.cW b hb (λho=>lz ?_);obtain⟨i',_,o1,c1,iX,bO⟩:=xE b ho;exact⟨i',o1,c1,iX,bO⟩
  ·intro b hb;exact⟨dU.z0 b (gP b hb),λhs=>Pm b hs hb⟩
  ·rintro b ⟨hz,zI⟩;rcases dU.z1 b hz with(h1|h1)|h1|h1
   ·exact .inl h1
   ·exact absurd h1 zI
   ·obtain⟨i',_,o1,c1,iX,bO⟩:=xE b h1;exact .inr (.inl ⟨i',o1,c1,iX,bO⟩)
   ·exact .inr (.inr h1)
  ·rintro b ⟨i,o,c,hi,hb⟩;rcases kR i hi with⟨ou,ly,pt,eP⟩|⟨ji,eQ,rfl,eP⟩
   ·rw[eP]at hb;exact .inl ⟨i,o,c,pt,hb⟩
   ·rw[eP]at hb;rcases Gg ji b o c eQ hb with⟨i',_,o1,c1,iX,bO⟩|jT
    ·exact .inl ⟨i',o1,c1,iX,bO⟩
    ·exact .inr jT
  ·show σ.aa.length<=(eU σ.aa ae new).length;rw[F6 ae σ.aa new an];omega
  ·rintro i hi ⟨o,ho,hg⟩;refine⟨by show(if i<σ.aa.length then _ else _)=_;rw[if_pos hi],?_⟩;by_cases ly:i∈ae
   ·obtain⟨j,hj,rfl⟩:=CH ly;have jr:j<cA.length:=Bv;have vM:mZ[ae.getD j 0]?=some (bD ρ cA[j]):=by
     show(eU σ.aa ae new)[ae.getD j 0]?=_;rw[CE ae σ.aa new an cp ij j hj];simp[new,jr]
    have dw:mZ[ae.getD j 0]?=some o:=ho;rw[vM]at dw;simp only[cL.injEq]at dw;have bB:cA[j]≠.gone:=by intro h0;apply hg;rw[<- dw,h0];rfl
    obtain⟨_,x,x',hx,bR,jC⟩:=dU.jn j Bv ⟨cA[j],by simp[jr],bB⟩;have e1:cA[j]=x':=by simpa [jr] using bR
    refine⟨bD ρ x,o,qn j x hx,ho,?_⟩;rw[<- dw,e1];cases x<;>cases x'<;>simp_all [Ob.dj,bD]
   ·have he:mZ[i]?=σ.aa[i]?:=CF ae σ.aa new an i ly hi;have cD:σ.aa[i]?=some o:=by rw[<- he];exact ho
    exact⟨o,o,cD,ho,Ob.iC hg⟩
 ·have:=gM.ao 0;rw[Ge]at this;exact CJ res cv (by simpa using this) (λhs=>(Pk hs).1)
def ak.r{f:FuncId}{args:List AV}{aa:List Ob}{res:AV}{aZ:List Ob}(h:ak P f args aa res aZ):di P f args aa (λr os=>r=res/\os=aZ) :=
 ⟨h.1,λγ aH hs=>(h.2 γ aH hs).mono λ_ _ ⟨cv,ay,h1,h2,h3,h4,h5⟩=>⟨res,aZ,cv,ay,⟨rfl,rfl⟩,h1,h2,h3,h4,h5⟩⟩
def CG.r{f:FuncId}{args:List AV}{σ:St}{K:AV->St->Prop}(h:CG P f args σ K):FL P f args σ K:=by
 obtain⟨ae,snap,dF,bA,res,cA,h1,⟨h2,h3,h4,h5,h6,h7⟩,h8⟩:=h;exact⟨ae,snap,dF,bA,_,h1.r,⟨h2,h3,h4,h5,h6⟩,λr os ⟨e1,e2⟩=>by subst e1;subst e2;exact⟨h7,h8⟩⟩
def Pp{σ:St}{γ:Cx}(h:ba σ γ){f:FuncId}{args:List AV}{argv:Array Value}(aH:argv.size=args.length)(Gb:∀ (j:Nat) d,args[j]?=some d->au σ.aa γ.w γ.Z γ.blk d (argv.getD j Go.undef)){K:AV->St->Prop}(hc:CG P f args σ K):
  Calls P f argv γ.w (λe w'=>∃ cv v σ' ay,e=.returned cv/\ay.w=w'/\ay.tmps=γ.tmps/\ba σ' ay/\Fr σ.aa γ σ'.aa ay/\au σ'.aa ay.w ay.Z ay.blk v cv/\K v σ'/\σ'.env=σ.env) :=
 FN h aH Gb hc.r
end Go.Am
namespace Go.Am
variable {P:Program}
def ba.select{σ:St}{γ:Cx}(h:ba σ γ)(ae:List Nat)(snap:Bool)(bA:List Ob)(cp:ae.Nodup)(cz:bA.length=ae.length)(qn:∀ (j:Nat) o,bA[j]?=some o->o=.gone\/σ.aa[ae.getD j 0]?=some (bD (bu σ.aa.length ae) o))(ij:∀ i∈ae,i<σ.aa.length)(e:Nat->AV)(tm:Array Value)(he:∀ k,e k=.undef\/∃ d,bt σ (λid=>∃ j,j<ae.length/\ae.getD j 0=id/\bA[j]?≠some .gone) (bu σ.aa.length ae) snap (e k) d/\au σ.aa γ.w γ.Z γ.blk d (tm.getD k Go.undef)):
  ∃ ay,ay.w=γ.w/\ay.tmps=tm/\ba ⟨e,bA⟩ ay/\((∀ i,i<bA.length->ay.blk i=γ.blk (ae.getD i 0))/\(∀ b,γ.Z b->ay.Z b)/\(∀ b,ay.Z b->γ.Z b\/m4 σ.aa γ.blk b) /\
   ∀ i,Live bA i->Live σ.aa (ae.getD i 0)/\∃ o,bA[i]?=some o/\σ.aa[ae.getD i 0]?=some (bD (bu σ.aa.length ae) o)):=by
 let ρ:=bu σ.aa.length ae
 let kp:Nat->Prop:=λid=>∃ j,j<ae.length/\ae.getD j 0=id/\bA[j]?≠some .gone
 let S:Nat->Prop:=λb=>snap=true/\∃ id o cap,¬ kp id/\Live σ.aa id/\γ.blk id=some (b,o,cap)
 let γc:Cx:={ w:=γ.w,tmps:=tm,Z:=λb=>γ.Z b\/S b,blk:=λj=>if j<ae.length then γ.blk (ae.getD j 0) else none }
 have sZ:∀ j x,σ.aa[ρ j]?=some x->∃ o,bA[j]?=some o/\(o=.gone\/(x=bD ρ o/\γc.blk j=γ.blk (ρ j))):=by
  intro j x hx;obtain⟨hj,hr⟩:=Ph ij (aN.1 hx).1;have jr:j<bA.length:=Bv;refine⟨bA[j],by simp[jr],?_⟩;rcases qn j bA[j] (by simp[jr]) with hg|this
  ·exact .inl hg
  ·right;refine⟨?_,?_⟩
   ·have bR:σ.aa[bu σ.aa.length ae j]?=some x:=hx;rw[hr,this]at bR;simpa using bR.symm
   ·show(if j<ae.length then γ.blk (ae.getD j 0) else none)=γ.blk (bu σ.aa.length ae j);rw[if_pos hj,hr]
 have gP:∀ b,γ.Z b->γc.Z b:=λb hb=>.inl hb;have rH:∀ j,Live bA j->Live σ.aa (ae.getD j 0)/\j<ae.length/\kp (ae.getD j 0)/\∃ o,bA[j]?=some o/\σ.aa[ae.getD j 0]?=some (bD ρ o):=by
  rintro j⟨o,ho,hg⟩;have hj:=(aN.1 ho).1;rcases qn j o ho with h'|h'
  ·exact absurd h' hg
  ·exact⟨⟨_,h',λe=>hg (zB.1 e)⟩,Bv,⟨j,Bv,rfl,by rw[ho];simpa using hg⟩,o,ho,h'⟩
 have ov:∀ j,j<ae.length->γc.blk j=γ.blk (ae.getD j 0):=λj hj=>by show(if j<ae.length then _ else _)=_;rw[if_pos hj]
 have Gc:ba ⟨e,bA⟩ γc:=by
  refine⟨λk=>?_,?_,?_,?_,?_,λg=>vH (h.gl g) λb hb=>⟨gP b hb,rfl⟩⟩
  ·rcases he k with h0|⟨d,hd,hr⟩
   ·show au bA γc.w γc.Z γc.blk (e k) _;rw[h0];exact .undef _
   ·exact hd.rel h gP rfl (λhs id b o cap cO hl hb=>.inr ⟨hs,id,o,cap,cO,hl,hb⟩) sZ _ hr
  ·intro j o ho;by_cases bS:o=.gone
   ·subst bS;trivial
   obtain⟨_,zF,_,o',cD,XC⟩:=rH j ⟨o,ho,bS⟩;have:o=o':=by
    have h1:bA[j]?=some o:=ho;rw[cD]at h1;simpa using h1.symm
   subst this;have a9:=h.dQ _ _ XC;have hb:=ov j zF;cases o with
   |gone=>trivial
   |var cells =>
    obtain⟨b,cap,cur,t,h1,h2,h3,h4⟩:=a9;exact⟨b,cap,cur,t,hb.trans h1,h2,by simpa using h3,λc v hv=>(h4 c (aU ρ v) (by simp only[cm,hv];rfl)).down gP sZ v rfl⟩
   |mp ag L =>
    obtain⟨b,f,h1,h2,h3,h4⟩:=a9;refine⟨b,f,hb.trans h1,?_,λp hp=>h3 (p.1,aU ρ p.2) (BC (f:=λp:List Int×AV=>(p.1,aU ρ p.2)) hp),λj p hp=>(h4 j (p.1,aU ρ p.2) (by simp only[cm,hp];rfl)).down gP sZ p.2 rfl⟩;rw[Gd,eA]at h2;exact h2
   |arr sz rows =>
    obtain⟨h0,hr,a9⟩:=a9;refine⟨h0,λrow bf=>by simpa using hr (row.map (aU ρ)) (BC bf),?_⟩;rcases a9 with⟨h1,h2⟩|⟨b,o,cap,cur,t,h1,h2,h3,h4,h5,h6⟩
    ·exact .inl ⟨hb.trans h1,by simpa using h2⟩
    ·refine .inr ⟨b,o,cap,cur,t,hb.trans h1,h2,h3,by simpa using h4,h5,λr c v hv=>(h6 r c (aU ρ v) ?_).down gP sZ v rfl⟩;simp only[cellAt,cm]at hv ⊢;cases iZ:rows[r]? with
     |none=>simp[iZ]at hv
     |some row=>simp[iZ]at hv ⊢;exact⟨v,hv,rfl⟩
  ·intro i j b o c o' c' hi hj eW fB;obtain⟨h1,h2,_⟩:=rH i hi;obtain⟨h3,h4,_⟩:=rH j hj;exact Pj cp h2 h4 (h.inj _ _ b o c o' c' h1 h3 (ov i h2▸eW) (ov j h4▸fB))
  ·rintro b ⟨i,o,c,hi,hb⟩ hz;obtain⟨h1,h2,h3,_⟩:=rH i hi;rw[ov i h2]at hb;rcases hz with hz|⟨_,id,o',cap',cO,hl,bO⟩
   ·exact h.nz b ⟨_,o,c,h1,hb⟩ hz
   ·have:=h.inj _ _ b o c o' cap' h1 hl hb bO;exact cO (this▸h3)
  ·rintro b (hb|⟨_,id,o,cap,_,hl,hb⟩)
   ·exact h.fY b hb
   ·exact h.blt hl hb
 refine⟨γc,rfl,rfl,Gc,λi hi=>ov i Bv,gP,?_,?_⟩
 ·rintro b (hb|⟨_,id,o,cap,_,hl,hb⟩)
  ·exact .inl hb
  ·exact .inr ⟨id,o,cap,hl,hb⟩
 ·intro i hi;obtain⟨h1,h2,_,h4⟩:=rH i hi;exact⟨h1,h4⟩
def Ob.XD{ρ:Nat->Nat}{x o:Ob}(h:x.dj (bD ρ o)):x.dj o:=by
 cases x<;>cases o<;>simp[Ob.dj,bD]at h ⊢<;>exact h
def Fr.select{os:List Ob}{γ0 γ ay:Cx}{σ:St}(hf:Fr os γ0 σ.aa γ){ae:List Nat}{bA:List Ob}(hn:os.length<=ae.length)(cz:bA.length=ae.length)(cO:∀ i,i<os.length->ae.getD i 0=i)(hw:ay.w=γ.w)(h:(∀ i,i<bA.length->ay.blk i=γ.blk (ae.getD i 0))/\(∀ b,γ.Z b->ay.Z b)/\(∀ b,ay.Z b->γ.Z b\/m4 σ.aa γ.blk b) /\
   ∀ i,Live bA i->Live σ.aa (ae.getD i 0)/\∃ o,bA[i]?=some o/\σ.aa[ae.getD i 0]?=some (bD (bu σ.aa.length ae) o)):Fr os γ0 bA ay:=by
 obtain⟨h1,h2,h3,h4⟩:=h;refine⟨by rw[hw];exact hf.kl,by rw[hw];exact hf.tape,by rw[hw];exact hf.output,by rw[hw];exact hf.size,by rw[hw];exact hf.cW,λb hb=>h2 b (hf.z0 b hb),?_,?_,Bv,?_⟩
 ·intro b hb;rcases h3 b hb with h|h
  ·exact hf.z1 b h
  ·rcases hf.own b h with h|h
   ·exact .inr (.inl h)
   ·exact .inr (.inr h)
 ·rintro b ⟨i,o,c,hi,hb⟩;have bq:=hi.lt;rw[h1 i bq]at hb;exact hf.own b ⟨_,o,c,(h4 i hi).1,hb⟩
 ·intro i hi hl;obtain⟨h5,o,ho,cD⟩:=h4 i hl;rw[cO i hi]at h5 cD;obtain⟨h6,x,x',hx,bR,hk⟩:=hf.jn i hi h5;refine⟨by rw[h1 i hl.lt,cO i hi];exact h6,x,o,hx,ho,?_⟩;rw[cD]at bR;simp only[cL.injEq]at bR;rw[<- bR]at hk;exact Ob.XD hk
def eH(N:Nat)(os:List Ob)(γ0:Cx)(σ:St)(a:Act)(w:World):Prop :=
 a.defers=[]/\a.tmps.size=N/\∃ γ,γ.w=w/\γ.tmps=a.tmps/\ba σ γ/\Fr os γ0 σ.aa γ
def W(P:Program)(N n0:Nat)(c:Code)(Q:Exit->St->Prop)(σ:St):Prop :=
 ∀ (os:List Ob) (γ0:Cx) (a:Act) (w:World),os.length=n0->eH N os γ0 σ a w->c.wp P (λe a' w'=>∃ σ',Q e σ'/\eH N os γ0 σ' a' w') a w
def p7(P:Program)(g:FuncId)(args:List AV)(dst:Option Tmp)(K:St->Prop)(σ:St):Prop:=CG P g args σ λv σ'=>K (σ'.put dst v)
def Co(P:Program)(t:TypeId)(m:String):Option (FuncId×Option TypeId) :=
 match P.info? t with
 |none=>none
 |some i =>
  match i.methods.find? (·.name==m) with
  |none=>none
  |some r =>
   match r.path.isEmpty,r.func,P.underlying t with
   |true,some (g,pr),some (.pointer e)=>some (g,if pr then none else some e)
   |_,_,_=>none
def mR(P:Program)(σ:St)(v:AV)(K:FuncId->AV->Prop):Option (FuncId×Option TypeId)->Prop
 |some (g,none)=>K g v
 |some (g,some e) =>
  (ty P e).kind≠99 /\
  match v with
  |.ptr id r c =>
   match rowOf σ id r with
   |some row=>kf (ty P e) row c λx=>K g x
   |none=>False
  |_=>False
 |none=>False
def aG(P:Program)(o:Oper)(σ:St)(K:St->Prop):Prop :=
 match o.op with
 |.call { callee:=.value f,args,.. } =>
  match ev σ f with
  |.fn g bg=>p7 P g (args.toList.map (ev σ)++bg) o.dst K σ
  |_=>False
 |.call { callee:=.invoke r m,args,.. } =>
  match ev σ r with
  |.fI t v=>mR P σ v (λg x=>p7 P g (x::args.toList.map (ev σ)) o.dst K σ) (Co P t m)
  |_=>False
 |_=>bM P o σ K
def l5(P:Program)(o:Oper)(K:St->Prop)(b want:Bool)(σ:St):Prop:=(b=want->aG P o σ K)/\(b≠want->K (σ.put o.dst (.lit (.tuple #[]))))
def opsL(P:Program)(ops:Array Oper):List Oper->(St->Prop)->St->Prop
 |[],K,σ=>K σ
 |o::r,K,σ =>
  match o.guard with
  |none=>aG P o σ (opsL P ops r K)
  |some (j,want) =>
   match (ops[j]?).bind (·.dst) with
   |none=>False
   |some d =>
    match σ.env d with
    |.lit (.bool b)=>l5 P o (opsL P ops r K) b want σ
    |.lit (.tuple vs)=>vs = #[]/\opsL P ops r K (σ.put o.dst (.lit (.tuple #[])))
    |_=>False
def nG(a:Act)(d:Option Tmp)(v:Value):(a.put d v).tmps.size=a.tmps.size:=by cases d<;>simp[Act.put]
def put_defers(a:Act)(d:Option Tmp)(v:Value):(a.put d v).defers=a.defers:=by cases d<;>rfl
def XE(xt:TypeId)(a:Addr)(x y:String):Builtin.ssaWrapNilChk_ #[xt] xt #[.pointer (some a),strVal x,strVal y]=pure (.pointer (some a)):=rfl
def Pq{w:World}{t:TypeId}{i:TypeInfo}(h:P.info? t=some i):(typeInfo t).run P w=.ok i w:=by
 simp[typeInfo,h]
def ext1(x:Value)(A:Array Value):(#[x]++A).extract 1 (#[x]++A).size=A:=by
 apply Array.ext';simp only[Array.toList_extract,List.extract,BB,Array.size_append];simp[List.take_of_length_le]
def XF{σ:St}{γ:Cx}(hs:ba σ γ){t:TypeId}{m:String}{v:AV}{cv:Value}(hv:au σ.aa γ.w γ.Z γ.blk v cv){K:FuncId->AV->Prop}(h:mR P σ v K (Co P t m)):
  ∃ g x cx,(Go.method (P.types.size+Made.depth) t cv m).run P γ.w=.ok (g,cx) γ.w/\au σ.aa γ.w γ.Z γ.blk x cx/\K g x:=by
 obtain⟨fu,XG⟩:∃fu,P.types.size+Made.depth=fu+1:=Nat.exists_eq_succ_of_ne_zero (by unfold Made.depth;omega);rw[XG];unfold Go.method;unfold Co at h;cases hi:P.info? t with
 |none=>simp[hi,mR]at h
 |some i =>
  simp only[hi]at h;cases hf:i.methods.find? (·.name==m) with
  |none=>simp[hf,mR]at h
  |some r =>
   simp only[hf]at h;split at h
   ·rename_i g pr e hp hr hu;have Ps:r.path = #[]:=Array.isEmpty_iff.1 hp;cases pr with
    |true =>
     simp only[if_pos,mR]at h;refine⟨g,v,cv,?_,hv,h⟩;simp[Pq hi,hf,Ps,follow,hr,receiverAt,run_underlying hu,Place.get]
    |false =>
     simp only[if_neg,Bool.false_eq_true,not_false_eq_true,mR]at h;obtain⟨hk,h⟩:=h;cases v with
     |ptr id rr c =>
      simp only at h;cases bf:rowOf σ id rr with
      |none=>simp[bf]at h
      |some row =>
       simp only[bf]at h;obtain⟨x,cx,h1,h2,h3⟩:=Gi hs hk hv bf h;refine⟨g,x,cx,?_,h2,h3⟩;obtain⟨b,base,cap,cur,tt,o,rfl,_⟩:=CL hs hv bf;simp only[Instr.loadAt,Instr.sureAddr,Sem.run_bind,Sem.run_pure,Result.andThen_ok]at h1;simp[Pq hi,hf,Ps,follow,hr,receiverAt,run_underlying hu,Place.get,XE,asAddr,h1]
     |_=>exact h.elim
   ·exact h.elim
def vJ{N:Nat}{os:List Ob}{γ0:Cx}{o:Oper}{σ:St}{K:St->Prop}(h:aG P o σ K){a:Act}{w:World}(az:eH N os γ0 σ a w)(hd:∀ d,o.dst=some d->d<N){Q:Exit->Act->World->Prop}{next:Act->World->Prop}(hn:∀ σ' a' w',K σ'->eH N os γ0 σ' a' w'->next a' w'):o.wp P a w next Q:=by
 obtain⟨eI,aH,γ,rfl,ha,hs,hf⟩:=az;have oc:∀ d,o.dst=some d->d<a.tmps.size:=λd h=>by rw[aH];exact hd d h
 have XH:bM P o σ K->o.wp P a γ.w next Q:=by
  intro h;obtain⟨n,x,w',σ',ay,hr,fR,hK,gM,dU,ox,fJ⟩:=XI h hs ha oc;unfold Oper.wp;rw[hr];have cr:eH N os γ0 σ' (a.put o.dst x) w':=⟨by rw[put_defers];exact eI,by rw[nG];exact aH,ay,ox,fJ,gM,hf.trans dU⟩;rcases fR with rfl|⟨rfl,rfl⟩
  ·exact hn _ _ _ hK cr
  ·exact hn _ _ _ hK cr
 unfold aG at h;split at h
 ·rename_i f args dv dH;split at h
  ·rename_i g bg he;have dC:=mV hs ha f;rw[he]at dC;obtain⟨aR,aV,kO,l6⟩:=dC.FM;have kj:∀ (j:Nat) d,(args.toList.map (ev σ)++bg)[j]?=some d->au σ.aa γ.w γ.Z γ.blk d (((args.map a.eval)++aR).getD j Go.undef):=by
    intro j d hj;simp only[dJ];rcases dr j args.size with bq|jT
    ·rw[cG (by simpa using bq)]at hj;rw[yW (by simpa using bq)];simp only[cm,w7,EV]at hj ⊢;cases hx:args[j]? with
     |none=>simp[hx]at hj
     |some y=>simp[hx]at hj ⊢;subst hj;exact mV hs ha y
    ·rw[dy (by simpa using jT)]at hj;rw[Jx (by simpa using jT)];simp only[eA,Array.length_toList,Array.size_map]at hj ⊢;have:=l6 _ d hj;simpa [dJ] using this
   unfold p7 at h;have fX:=Pp hs (argv:=(args.map a.eval)++aR) (by simp[kO]) kj h;obtain⟨ae,snap,dF,bA,res,cA,⟨⟨fn,hfn,mT,qg⟩,_⟩,_⟩:=h;unfold Oper.wp;have hr:(execOp a.eval o).run P γ.w=.ok (.enter g ((args.map a.eval)++aR)) γ.w:=by
    have ll : ¬ fn.name = "runtime.NumGoroutine" := by simpa using mT
    have kk:¬ fn.body=none:=by intro e;rw[e]at qg;simp at qg
    simp[execOp,dH,resolve,aV,Deferred.ofValue,invoke,callFunc,hfn,ll,kk]
   rw[hr];show Calls P g _ _ _;refine fX.mono ?_;rintro e w'⟨cv,v,σ',ay,rfl,rfl,fJ,gM,dU,hv,hK,sX⟩;refine hn _ _ _ hK ⟨by rw[put_defers];exact eI,by rw[nG];exact aH,{ ay with tmps:=(a.put o.dst cv).tmps },rfl,rfl,mW gM (by rw[fJ,ha]) oc hv,?_⟩;rw[l7];exact(hf.trans dU).put _
  ·exact h.elim
 ·rename_i r m args dv dH;split at h
  ·rename_i t v he;have dC:=mV hs ha r;rw[he]at dC;obtain⟨CM,aV,l6⟩:=dC.Pt;obtain⟨g,x,cx,hm,hx,h⟩:=XF hs l6 h;have kj:∀ (j:Nat) d,(x::args.toList.map (ev σ))[j]?=some d->au σ.aa γ.w γ.Z γ.blk d ((#[cx]++args.map a.eval).getD j Go.undef):=by
    intro j d hj;simp only[dJ];cases j with
    |zero =>
     simp only[qV,cL.injEq]at hj;subst hj;rw[yW Jy];simpa using hx
    |succ j =>
     simp only[vj,cm,w7]at hj;rw[Jx Jy];simp only[List.size_toArray,cf,List.length_nil,Nat.zero_add,Nat.add_sub_cancel,EV];cases hy:args[j]? with
     |none=>simp[hy]at hj
     |some y=>simp[hy]at hj ⊢;subst hj;exact mV hs ha y
   unfold p7 at h;have fX:=Pp hs (argv:=#[cx]++args.map a.eval) aak kj h;obtain⟨ae,snap,dF,bA,res,cA,⟨⟨fn,hfn,mT,qg⟩,_⟩,_⟩:=h;unfold Oper.wp;have hr:(execOp a.eval o).run P γ.w=.ok (.enter g (#[cx]++args.map a.eval)) γ.w:=by
    have ll : ¬ fn.name = "runtime.NumGoroutine" := by simpa using mT
    have kk:¬ fn.body=none:=by intro e;rw[e]at qg;simp at qg
    have e0:(#[Value.iface t CM]++args.map a.eval)[0]?=some (.iface t CM):=by rw[yW Jy];simp
    have e1:=ext1 (.iface t CM) (args.map a.eval);have e2:(callMethod (.iface t CM) m (args.map a.eval)).run P γ.w=.ok (.enter g (#[cx]++args.map a.eval)) γ.w:=by
     unfold callMethod;simp only[Sem.run_bind,run_program,Result.andThen_ok,hm];simp[callFunc,hfn,ll,kk]
    simp only[execOp,dH,resolve,aV,pure_bind,invoke,e0,e1];exact e2
   rw[hr];show Calls P g _ _ _;refine fX.mono ?_;rintro e w'⟨cv,v,σ',ay,rfl,rfl,fJ,gM,dU,hv,hK,sX⟩;refine hn _ _ _ hK ⟨by rw[put_defers];exact eI,by rw[nG];exact aH,{ ay with tmps:=(a.put o.dst cv).tmps },rfl,rfl,mW gM (by rw[fJ,ha]) oc hv,?_⟩;rw[l7];exact(hf.trans dU).put _
  ·exact h.elim
 ·exact XH h
def zJ{N:Nat}{os:List Ob}{γ0:Cx}{ops:Array Oper}(hd:∀ o∈ops.toList,∀ d,o.dst=some d->d<N){K:St->Prop}{Q:Exit->Act->World->Prop}(hQ:∀ σ' a' w',K σ'->eH N os γ0 σ' a' w'->Q .normal a' w'):∀ (l:List Oper) (i:Nat) (σ:St) (a:Act) (w:World),ops.toList.drop i=l->opsL P ops l K σ->eH N os γ0 σ a w ->
   wpOps P ops Q (List.range' i l.length) a w
 |[],i,σ,a,w,_,h,az=>by simpa [wpOps] using hQ _ _ _ h az
 |o::r,i,σ,a,w,hl,h,az=>by
  have hi:ops[i]?=some o:=by
   have:(ops.toList.drop i)[0]?=some o:=by rw[hl];rfl
   simpa using this
  have hr:ops.toList.drop (i+1)=r:=by
   have:=congrArg List.tail hl;simpa [List.tail_drop] using this
  have bP:o∈ops.toList:=fq (by simpa using hi);rw[cf,List.range'_succ,wpOps_cons];unfold wpOp;simp only[hi];unfold opsL at h;cases hg:o.guard with
  |none =>
   simp only[hg]at h;have hw:Region.wanted o (yielded ops a.tmps)=true:=by simp[Region.wanted,hg]
   rw[if_pos hw];left;exact vJ h az (hd o bP) (λσ' a' w' hK cr=>zJ hd hQ r (i+1) σ' a' w' hr hK cr)
  |some jw =>
   obtain⟨j,want⟩:=jw;simp only[hg]at h;cases dR:(ops[j]?).bind (·.dst) with
   |none=>simp[dR]at h
   |some d =>
    simp only[dR]at h;split at h
    ·rename_i b he;obtain⟨eI,aH,γ,rfl,ha,hs,hf⟩:=az;have ic:=hs.ao d;rw[he,ha]at ic;have hv:=ic.bX;have hy:yielded ops a.tmps j=some b:=by
      unfold yielded;rw[dR];have:a.tmps[d]?=some (.bool b):=by
       rw[dJ]at hv;cases hx:a.tmps[d]? with
       |none=>rw[hx]at hv;simp[Go.undef]at hv
       |some y=>rw[hx]at hv;simp at hv;rw[hv]
      simp[this]
     by_cases eV:b=want
     ·have hw:Region.wanted o (yielded ops a.tmps)=true:=by simp[Region.wanted,hg,hy,eV]
      rw[if_pos hw];left;exact vJ (h.1 eV) ⟨eI,aH,γ,rfl,ha,hs,hf⟩ (hd o bP) (λσ' a' w' hK cr=>zJ hd hQ r (i+1) σ' a' w' hr hK cr)
     ·have hw:Region.wanted o (yielded ops a.tmps)=false:=by simp[Region.wanted,hg,hy,eV]
      rw[if_neg (by rw[hw];simp)];refine zJ hd hQ r (i+1) _ _ _ hr (h.2 eV) ⟨by rw[put_defers];exact eI,by rw[nG];exact aH,{ γ with tmps:=(a.put o.dst Go.undef).tmps },rfl,rfl,mW hs ha (λd h=>by rw[aH];exact hd o bP d h) (.lit _),?_⟩;rw[l7];exact hf.put _
    ·rename_i vs he;obtain⟨eI,aH,γ,rfl,ha,hs,hf⟩:=az;have ic:=hs.ao d;rw[he,ha]at ic;have hv:=ic.bX;have hy:yielded ops a.tmps j=none:=by
      unfold yielded;rw[dR];rw[dJ]at hv;cases hx:a.tmps[d]? with
      |none=>simp[hx]
      |some y=>rw[hx]at hv;simp at hv;subst hv;simp[hx]
     have hw:Region.wanted o (yielded ops a.tmps)=false:=by simp[Region.wanted,hg,hy]
     rw[if_neg (by rw[hw];simp)];refine zJ hd hQ r (i+1) _ _ _ hr h.2 ⟨by rw[put_defers];exact eI,by rw[nG];exact aH,{ γ with tmps:=(a.put o.dst Go.undef).tmps },rfl,rfl,mW hs ha (λd h=>by rw[aH];exact hd o bP d h) (.lit _),?_⟩;rw[l7];exact hf.put _
    ·exact h.elim
end Go.Am
namespace Go.Am
variable {P:Program} {N n0:Nat} {Q:Exit->St->Prop} {σ:St}
def ME{c:Code}{Q':Exit->St->Prop}(h:W P N n0 c Q σ)(hq:∀ e s,Q e s->Q' e s):W P N n0 c Q' σ :=
 λos γ0 a w hn az=>wp_mono (h os γ0 a w hn az) (λ_ _ _ ⟨σ',h1,h2⟩=>⟨σ',hq _ _ h1,h2⟩)
def Wx(h:Q .normal σ):W P N n0 .skip Q σ:=λ_ _ _ _ _ az=>wp_skip ⟨σ,h,az⟩
def WB{l:Nat}(h:Q .normal σ):W P N n0 (.label l) Q σ:=λ_ _ _ _ _ az=>wp_label ⟨σ,h,az⟩
def Wy{id:Nat}(h:Q (.exit id) σ):W P N n0 (.exit id) Q σ:=λ_ _ _ _ _ az=>wp_exit ⟨σ,h,az⟩
def WA(h:Q .ret σ):W P N n0 .ret Q σ:=λ_ _ _ _ _ az=>wp_ret ⟨σ,h,az⟩
def XJ(P:Program)(N n0:Nat)(y:Code)(Q:Exit->St->Prop):Exit->St->Prop
 |.normal,s=>W P N n0 y Q s
 |e,s=>Q e s
def Cp{x y:Code}(h:W P N n0 x (XJ P N n0 y Q) σ):W P N n0 (.seq x y) Q σ:=by
 intro os γ0 a w hn az;refine wp_seq (wp_mono (h os γ0 a w hn az) ?_);rintro e a' w'⟨σ',h1,h2⟩;cases e with
 |normal=>exact h1 os γ0 a' w' hn h2
 |exit id=>exact⟨σ',h1,h2⟩
 |goto l=>exact⟨σ',h1,h2⟩
 |ret=>exact⟨σ',h1,h2⟩
 |panic c=>exact⟨σ',h1,h2⟩
 |outgrown=>exact⟨σ',h1,h2⟩
def Wt{c:Operand}{x y:Code}{t:Bool}(hc:ev σ c=.lit (.bool t))(ht:t=true->W P N n0 x Q σ)(hf:t=false->W P N n0 y Q σ):W P N n0 (.cond c x y) Q σ:=by
 intro os γ0 a w hn az;have aV:a.eval c=.bool t:=by
  obtain⟨_,_,γ,rfl,ha,hs,_⟩:=az;have:=mV hs ha c;rw[hc]at this;exact this.bX
 exact wp_cond_split aV (λh=>ht h os γ0 a w hn az) (λh=>hf h os γ0 a w hn az)
def CC(id:Nat)(Q:Exit->St->Prop):Exit->St->Prop
 |.exit uC,s=>if uC=id then Q .normal s else Q (.exit uC) s
 |e,s=>Q e s
def W7{id:Nat}{c:Code}(h:W P N n0 c (CC id Q) σ):W P N n0 (.block id c) Q σ:=by
 intro os γ0 a w hn az;refine wp_block (wp_mono (h os γ0 a w hn az) ?_);rintro e a' w'⟨σ',h1,h2⟩;cases e with
 |exit uC =>
  simp only[CC]at h1;simp only[Exit.inBlock];split
  ·rename_i he;rw[if_pos he]at h1;exact⟨σ',h1,h2⟩
  ·rename_i he;rw[if_neg he]at h1;exact⟨σ',h1,h2⟩
 |normal=>exact⟨σ',h1,h2⟩
 |goto l=>exact⟨σ',h1,h2⟩
 |ret=>exact⟨σ',h1,h2⟩
 |panic c=>exact⟨σ',h1,h2⟩
 |outgrown=>exact⟨σ',h1,h2⟩
def dY(N:Nat)(ops:Array Oper):Bool:=ops.toList.all λo=>match o.dst with|some d=>decide (d<N)|none=>true
def kL{ops:Array Oper}(h:dY N ops=true):∀ o∈ops.toList,∀ d,o.dst=some d->d<N:=by
 intro o ho d hd;unfold dY at h;rw[eS]at h;have:=h o ho;simp[hd]at this;exact this
def Pb{id:Nat}{ops:Array Oper}(hd:dY N ops=true)(h:opsL P ops ops.toList (Q .normal) σ):W P N n0 (.region id ops false) Q σ:=by
 intro os γ0 a w _ az;refine wp_region ?_;have:=zJ (P:=P) (N:=N) (os:=os) (γ0:=γ0) (ops:=ops) (kL hd) (K:=Q .normal) (Q:=λe a' w'=>∃ σ',Q e σ'/\eH N os γ0 σ' a' w') (λσ' a' w' hK cr=>⟨σ',hK,cr⟩)
  ops.toList 0 σ a w rfl h az
 rw[List.range_eq_range'];simpa using this
def eH.drawn{os:List Ob}{γ0:Cx}{a:Act}{w:World}(h:eH N os γ0 σ a w):eH N os γ0 σ a { w with drawn:=w.drawn+1 }:=by
 obtain⟨h1,h2,γ,rfl,h3,h4,h5⟩:=h;exact⟨h1,h2,{ γ with w:={ γ.w with drawn:=γ.w.drawn+1 } },rfl,h3,h4.Gj rfl,h5.Gj rfl rfl rfl rfl⟩
def aC(n0:Nat)(σ σ':St):Prop:=∀ (os:List Ob) (γ0 γ:Cx),os.length=n0->ba σ γ->Fr os γ0 σ.aa γ->∃ ay,ay.w=γ.w/\ay.tmps=γ.tmps/\ba σ' ay/\Fr os γ0 σ'.aa ay
def cU{c:Code}{σ':St}(h:aC n0 σ σ')(hw:W P N n0 c Q σ'):W P N n0 c Q σ:=by
 intro os γ0 a w hn az;obtain⟨h1,h2,γ,rfl,h3,h4,h5⟩:=az;obtain⟨ay,e1,e2,e3,e4⟩:=h os γ0 γ hn h4 h5;exact hw os γ0 a γ.w hn ⟨h1,h2,ay,e1,e2.trans h3,e3,e4⟩
def aC.forget{e:Nat->AV}(h:∀ k,e k=.undef\/e k=σ.env k):aC n0 σ ⟨e,σ.aa⟩:=by
 intro os γ0 γ _ hs hf;refine⟨γ,rfl,rfl,⟨λk=>?_,hs.dQ,hs.inj,hs.nz,hs.fY,hs.gl⟩,hf⟩;rcases h k with h|h
 ·show au _ _ _ _ (e k) _;rw[h];exact .undef _
 ·show au _ _ _ _ (e k) _;rw[h];exact hs.ao k
def aC.select(ae:List Nat)(snap:Bool)(bA:List Ob)(e:Nat->AV)(cp:ae.Nodup)(cz:bA.length=ae.length)(qn:∀ (j:Nat) o,bA[j]?=some o->o=.gone\/σ.aa[ae.getD j 0]?=some (bD (bu σ.aa.length ae) o))(ij:∀ i∈ae,i<σ.aa.length)(hn:n0<=ae.length)(cO:∀ i,i<n0->ae.getD i 0=i)(he:∀ k,e k=.undef\/bt σ (λid=>∃ j,j<ae.length/\ae.getD j 0=id/\bA[j]?≠some .gone) (bu σ.aa.length ae) snap (e k) (σ.env k)):aC n0 σ ⟨e,bA⟩:=by
 intro os γ0 γ CN hs hf;obtain⟨ay,h1,h2,h3,h4⟩:=hs.select ae snap bA cp cz qn ij e γ.tmps (λk=>(he k).imp id λh=>⟨_,h,hs.ao k⟩);exact⟨ay,h1,h2,h3,hf.select Bv cz (λi hi=>cO i Bv) h1 h4⟩
def aC.trans{σ1 σ2:St}(h:aC n0 σ σ1)(k:aC n0 σ1 σ2):aC n0 σ σ2:=by
 intro os γ0 γ CN hs hf;obtain⟨γ1,a1,a2,a3,a4⟩:=h os γ0 γ CN hs hf;obtain⟨zK,b1,b2,b3,b4⟩:=k os γ0 γ1 CN a3 a4;exact⟨zK,b1.trans a1,b2.trans a2,b3,b4⟩
def aC.nil(d sz:Nat)(h:σ.env d=.lit (.slice none 0 0))(h0:0<sz):aC n0 σ ⟨iL σ.env d (.ref σ.aa.length sz 0 0),σ.aa++[.arr sz []]⟩:=by
 intro os γ0 γ _ hs hf;have hp:=hs.vF h0;refine⟨{ γ with blk:=cB γ.blk σ.aa.length none },rfl,rfl,⟨λk=>?_,hp.dQ,hp.inj,hp.nz,hp.fY,hp.gl⟩,hf.trans (Fr.vF _ _ _)⟩;simp only[iL];by_cases hk:k=d
 ·subst hk;rw[if_pos rfl];have:=hs.ao k;rw[h]at this;rw[this.bX];exact .jU _ _ (List.getElem?_concat_length ..) (by simp[cB])
 ·rw[if_neg hk];exact hp.ao k
def fc(σ:St)(P:Program):List ResultVar->(List AV->Prop)->Prop
 |[],K=>K []
 |.tmp t::r,K=>fc σ P r λvs=>K (σ.env t::vs)
 |.cell a t::r,K =>
  (ty P t).kind≠99 /\
  match σ.env a with
  |.ptr id rr c =>
   match rowOf σ id rr with
   |some row=>kf (ty P t) row c λv=>fc σ P r λvs=>K (v::vs)
   |none=>False
  |_=>False
def eM:List AV->AV
 |[v]=>v
 |vs=>.bH vs
def Cl{γ:Cx}(hs:ba σ γ):∀ (rs:List ResultVar) (K:List AV->Prop),fc σ P rs K ->
  ∃ vs aR,K vs/\(rs.mapM λ(r:ResultVar)=>match r with|.tmp t=>(pure (γ.tmps.getD t Go.undef):Sem Value)|.cell a t=>do loadVar t (← asAddr (γ.tmps.getD a Go.undef))).run P γ.w=.ok aR γ.w /\
   aR.length=vs.length/\vs.length=rs.length/\∀ (j:Nat) v,vs[j]?=some v->au σ.aa γ.w γ.Z γ.blk v (aR.getD j Go.undef)
 |[],K,h=>⟨[],[],h,Jy,rfl,rfl,Jy⟩
 |.tmp t::r,K,h=>by
  obtain⟨vs,aR,h1,h2,h3,h4,h5⟩:=Cl hs r _ h;refine⟨_,γ.tmps.getD t Go.undef::aR,h1,?_,by simp[h3],by simp[h4],?_⟩
  ·simp only[List.mapM_cons,Sem.run_bind,Sem.run_pure,Result.andThen_ok,h2]
  ·intro j v hj;cases j with
   |zero=>simp at hj;subst hj;simpa using hs.ao t
   |succ j=>simpa using h5 j v (by simpa using hj)
 |.cell a t::r,K,h=>by
  obtain⟨hk,h⟩:=h;split at h
  ·rename_i id rr c he;have hv:=hs.ao a;rw[he]at hv;split at h
   ·rename_i row bf;obtain⟨v,cv,l1,l2,l3⟩:=Gi hs hk hv bf h;obtain⟨vs,aR,h1,h2,h3,h4,h5⟩:=Cl hs r _ l3;obtain⟨b,base,cap,cur,tt,o,hp,_⟩:=CL hs hv bf;have dG:(do loadVar t (← asAddr (γ.tmps.getD a Go.undef)):Sem Value).run P γ.w=.ok cv γ.w:=by
     rw[hp]at l1 ⊢;simp only[Instr.loadAt,Instr.sureAddr,Sem.run_bind,Sem.run_pure,Result.andThen_ok]at l1;simp only[asAddr,Sem.run_bind,Sem.run_pure,Result.andThen_ok];exact l1
    refine⟨_,cv::aR,h1,?_,by simp[h3],by simp[h4],?_⟩
    ·simp only[List.mapM_cons];rw[Sem.run_bind,dG];simp only[Result.andThen_ok,Sem.run_bind,h2,Sem.run_pure]
    ·intro j x hj;cases j with
     |zero=>simp at hj;subst hj;simpa using l2
     |succ j=>simpa using h5 j x (by simpa using hj)
   ·exact h.elim
  ·exact h.elim
def mK(n0:Nat)(σ:St)(v res:AV)(aZ:List Ob):Prop :=
 ∃ (ae:List Nat) (snap:Bool),ae.Nodup/\aZ.length=ae.length/\(∀ (j:Nat) o,aZ[j]?=some o->o=.gone\/σ.aa[ae.getD j 0]?=some (bD (bu σ.aa.length ae) o))/\(∀ i∈ae,i<σ.aa.length) /\
  n0<=ae.length/\(∀ i,i<n0->ae.getD i 0=i)/\bt σ (λid=>∃ j,j<ae.length/\ae.getD j 0=id/\aZ[j]?≠some .gone) (bu σ.aa.length ae) snap res v
def xl(P:Program)(n0:Nat)(rs:List ResultVar)(res:AV)(aZ:List Ob):Exit->St->Prop
 |.normal,s=>fc s P rs λvs=>mK n0 s (eM vs) res aZ
 |.ret,s=>fc s P rs λvs=>mK n0 s (eM vs) res aZ
 |_,_=>False
def ak.FI {f : FuncId} {fn : Func} {c : Code} {args : List AV} {aa : List Ob} {res : AV} {aZ : List Ob} (hf : P.funcs[f]? = some fn) (hb : fn.body = some c) (mT : (fn.name == "runtime.NumGoroutine") = false)
  (hN:args.length<=fn.ntmps) (h:W P fn.ntmps aa.length c (xl P aa.length fn.results.toList res aZ) ⟨λk=>args.getD k .undef,aa⟩):ak P f args aa res aZ:=by
 refine⟨⟨fn,hf,mT,by rw[hb];rfl⟩,?_⟩;intro γ aH hs;refine calls_of_wp hf hb ?_
 let tm:=γ.tmps++Array.replicate (fn.ntmps-γ.tmps.size) Go.undef
 have az:eH fn.ntmps aa γ ⟨λk=>args.getD k .undef,aa⟩ { tmps:=tm,defers:=[] } γ.w:=by
  refine⟨rfl,by simp[tm];omega,{ γ with tmps:=tm },rfl,rfl,⟨λk=>?_,hs.dQ,hs.inj,hs.nz,hs.fY,hs.gl⟩,(Fr.refl _ _).put _⟩;rcases dr k args.length with hk|hk
  ·have:=hs.ao k;have e:tm.getD k Go.undef=γ.tmps.getD k Go.undef:=by
    simp only[tm,dJ];rw[yW Bv]
   show au _ _ _ _ _ (tm.getD k Go.undef);rw[e];exact this
  ·have e:args.getD k AV.undef=.undef:=by simp[hk]
   show au _ _ _ _ (args.getD k .undef) _;rw[e];exact .undef _
 refine wp_mono (h aa γ _ γ.w rfl az) ?_;rintro e a' w'⟨σ',h1,eI,_,ay,rfl,ha,gM,dU⟩;have fin:∀ (K:List AV->Prop),fc σ' P fn.results.toList K->(∀ vs,K vs->mK aa.length σ' (eM vs) res aZ) ->
   a'.defers=[]/\∃ v,(results fn a'.tmps).run P ay.w=.ok v ay.w/\∃ cv gN,Ending.returned v=.returned cv/\gN.w=ay.w/\gN.tmps = #[cv]/\ba ⟨λk=>[res].getD k .undef,aZ⟩ gN/\Fr aa γ aZ gN:=by
  intro K hK FJ;obtain⟨vs,aR,k1,k2,k3,k4,k5⟩:=Cl gM _ _ hK;obtain⟨ae,snap,r1,r2,r3,r4,r5,r6,r7⟩:=FJ vs k1;refine⟨eI,?_⟩;have dG :∃v,(results fn a'.tmps).run P ay.w=.ok v ay.w/\au σ'.aa ay.w ay.Z ay.blk (eM vs) v:=by
   have hm:(fn.results.mapM λ(r:ResultVar)=>match r with|.tmp t=>(pure (a'.tmps.getD t Go.undef):Sem Value)|.cell a t=>do loadVar t (← asAddr (a'.tmps.getD a Go.undef))).run P ay.w=.ok aR.toArray ay.w:=by
    rw[Array.mapM_eq_mapM_toList,Sem.run_map,<- ha,k2];rfl
   have hr:(results fn a'.tmps).run P ay.w=.ok (if h:aR.toArray.size=1 then aR.toArray[0] else .tuple aR.toArray) ay.w:=by
    unfold results;rw[Sem.run_bind];exact congrArg (λr=>Result.andThen r λ(a:Array Value) w'=>(pure (if h:a.size=1 then a[0] else Value.tuple a):Sem Value).run P w') hm
   rw[hr]
   match vs,aR,k3,k5 with
   |[],[],_,k5=>exact⟨_,rfl,.bH _ _ rfl (λj x hj=>by simp at hj)⟩
   |[v],[cv],_,k5=>exact⟨cv,Jy,by simpa [eM] using k5 0 v rfl⟩
   |v::v'::vs,cv::mU::aR,k3,k5 =>
    refine⟨.tuple (cv::mU::aR).toArray,Jy,.bH _ _ (by simpa using k3) (λj x hj=>?_)⟩;have:=k5 j x hj;simpa [ax,dJ] using this
  obtain⟨v,qf,uv⟩:=dG;obtain⟨gN,e1,e2,e3,e4⟩:=gM.select ae snap aZ r1 r2 r3 r4 (λk=>[res].getD k .undef) #[v] (λk=>by
   cases k with
   |zero=>exact .inr ⟨_,r7,by simpa using uv⟩
   |succ k=>left;simp)
  exact⟨v,qf,v,gN,rfl,e1,e2,e3,dU.select r5 r2 r6 e1 e4⟩
 cases e with
 |normal=>exact fin _ h1 (λ_ h=>h)
 |ret=>exact fin _ h1 (λ_ h=>h)
 |exit id=>exact h1.elim
 |goto l=>exact h1.elim
 |panic c=>exact h1.elim
 |outgrown=>exact h1.elim
theorem ak.aL {f:FuncId} {fn:Func} {c:Code} {args:List AV} {aa:List Ob} {res:AV} {aZ:List Ob} (N k:Nat) (rs:List ResultVar) (hf:P.funcs[f]?=some fn) (h:W P N k c (xl P k rs res aZ) ⟨fun k=>args.getD k .undef,aa⟩) (hb:fn.body=some c:=by rfl) (mT:(fn.name=="runtime.NumGoroutine")=false:=by rfl) (hN:fn.ntmps=N:=by rfl) (zq:fn.results.toList=rs:=by rfl) (hk:aa.length=k:=by rfl) (hl:args.length<=N:=by simp):ak P f args aa res aZ:=by
 subst hN;subst zq;subst hk;exact ak.FI hf hb mT hl h
def Wr{x y:Code}(h:∀ Q':Exit->St->Prop,(∀ s,W P N n0 y Q s->Q' .normal s)->(∀ e s,e≠.normal->Q e s->Q' e s)->W P N n0 x Q' σ):W P N n0 (.seq x y) Q σ :=
 Cp (h _ (λ_ h=>h) (λe s he hq=>by cases e<;>first|exact absurd rfl he|exact hq))
def Ns{id:Nat}{ops:Array Oper}{y:Code}(hd:dY N ops=true)(h:∀ K:St->Prop,(∀ s,W P N n0 y Q s->K s)->opsL P ops ops.toList K σ):W P N n0 (.seq (.region id ops false) y) Q σ :=
 Cp (Pb hd (h _ (λ_ h=>h)))
def NG{ops:Array Oper}{K:St->Prop}:opsL P ops [] K σ=K σ:=rfl
def NH{ops:Array Oper}{o:Oper}{r:List Oper}{K:St->Prop}:opsL P ops (o::r) K σ =
  match o.guard with
  |none=>aG P o σ (opsL P ops r K)
  |some (j,want) =>
   match (ops[j]?).bind (·.dst) with
   |none=>False
   |some d =>
    match σ.env d with
    |.lit (.bool b)=>l5 P o (opsL P ops r K) b want σ
    |.lit (.tuple vs)=>vs = #[]/\opsL P ops r K (σ.put o.dst (.lit (.tuple #[])))
    |_=>False:=rfl
def Cg{o:Oper}{K:St->Prop}:l5 P o K true true σ=aG P o σ K:=by simp[l5]
def Oi{o:Oper}{K:St->Prop}:l5 P o K false false σ=aG P o σ K:=by simp[l5]
def Og{o:Oper}{K:St->Prop}:l5 P o K true false σ=K (σ.put o.dst (.lit (.tuple #[]))):=by simp[l5]
def Oh{o:Oper}{K:St->Prop}:l5 P o K false true σ=K (σ.put o.dst (.lit (.tuple #[]))):=by simp[l5]
def Wv{o:Oper}{K:St->Prop}{b want:Bool}(h1:b=true->l5 P o K true want σ)(h2:b=false->l5 P o K false want σ):l5 P o K b want σ:=by
 cases b
 ·exact h2 rfl
 ·exact h1 rfl
def XK(ds:List Nat)(e:Nat->AV):Nat->AV:=λk=>if ds.contains k then .undef else e k
def Cf{ds:List Nat}{e:Nat->AV}{k:Nat}:XK ds e k=if ds.contains k then .undef else e k:=rfl
mutual
def jR:AV->Bool
 |.ref ..=>false
 |.ptr ..=>false
 |.agg cs=>kN cs
 |.bH cs=>kN cs
 |.fn _ cs=>kN cs
 |.fI _ v=>jR v
 |.dP _=>false
 |_=>true
def kN:List AV->Bool
 |[]=>true
 |v::vs=>jR v&&kN vs
end
mutual
def xA(ρ:Nat->Nat):∀ (v:AV),jR v=true->aU ρ v=v
 |.undef,_=>rfl
 |.lit _,_=>rfl
 |.tree ..,_=>rfl
 |.bU _,_=>rfl
 |.ref ..,h=>by simp[jR]at h
 |.ptr ..,h=>by simp[jR]at h
 |.agg cs,h=>by simp only[jR]at h;simp only[aU];rw[zA ρ cs h]
 |.bH cs,h=>by simp only[jR]at h;simp only[aU];rw[zA ρ cs h]
 |.fn f cs,h=>by simp only[jR]at h;simp only[aU];rw[zA ρ cs h]
 |.fI t v,h=>by simp only[jR]at h;simp only[aU];rw[xA ρ v h]
 |.dP _,h=>by simp[jR]at h
def zA(ρ:Nat->Nat):∀ (l:List AV),kN l=true->mP ρ l=l
 |[],_=>rfl
 |v::vs,h=>by
  simp only[kN,bb]at h;simp only[mP];rw[xA ρ v h.1,zA ρ vs h.2]
end
def XL{l:List AV}(h:kN l=true){j:Nat}{x:AV}(hx:l[j]?=some x):jR x=true:=by
 induction l generalizing j with
 |nil=>simp at hx
 |cons v l ih =>
  simp only[kN,bb]at h;cases j with
  |zero=>simp at hx;subst hx;exact h.1
  |succ j=>exact ih h.2 (by simpa using hx)
def bx{f:FuncId}{args:List AV}{dst:Option Tmp}{K:St->Prop}{res:AV}(h:ak P f args [] res [])(ha:kN args=true)(hr:jR res=true)(hK:K (σ.put dst res)):p7 P f args dst K σ:=by
 refine⟨[],false,args,[],res,[],h,⟨List.nodup_nil,rfl,Jy,rfl,?_,Jy⟩,?_⟩
 ·intro j c d hc hd;rw[hc]at hd;simp at hd;subst hd;have:=bt.same (σ:=σ) (kp:=(·∈([]:List Nat))) (ρ:=bu σ.aa.length []) (snap:=false) c;rw[xA _ c (XL ha hc)]at this;exact this
 ·rw[xA _ _ hr];simpa [eU] using hK
def pW{v:AV}(hr:jR v=true):mK 0 σ v v []:=by
 refine⟨[],false,List.nodup_nil,rfl,Jy,Jy,aM _,Jy,?_⟩;have:=bt.same (σ:=σ) (kp:=λid=>∃ j,j<([]:List Nat).length/\([]:List Nat).getD j 0=id/\([]:List Ob)[j]?≠some .gone) (ρ:=bu σ.aa.length []) (snap:=false) v;rw[xA _ _ hr]at this;exact this
end Go.Am
namespace Go.Am
variable {P:Program}
def cls:Op->Nat
 |.move _|.assign _|.pick ..|.convert ..|.binOp ..|.unOp ..|.makeFunc ..|.makeInterface ..|.typeAssert ..|.field ..|.extract ..|.build ..|.index ..=>0
 |.call { callee:=.builtin .min,.. }|.call { callee:=.builtin .max,.. }=>0
 |.nilCheck _|.fieldAddr ..|.indexAddr ..|.slice ..=>1
 |.call { callee:=.builtin .len,.. }=>1
 |.load ..|.lookup ..=>2
 |.alloc _|.box ..|.makeSlice ..|.buildSlice ..|.makeMap ..=>3
 |.store ..=>4
 |_=>5
def qm:Ob->Ob->Prop
 |.var _,.var _=>True
 |.arr s _,.arr s' _=>s=s'
 |.mp a L,.mp b M=>a=b/\L=M
 |.gone,.gone=>True
 |_,_=>False
def xy(o:Ob):qm o o:=by cases o<;>simp[qm]
def jB(c:Nat)(a b:List Ob):Prop :=
 if c<=2 then b=a
 else if c=3 then ∀ (id:Nat),id<a.length->b[id]?=a[id]?
 else if c=4 then b.length=a.length/\∀ (id:Nat) o o',a[id]?=some o->b[id]?=some o'->qm o o'
 else True
def XM(c:Nat)(h:c<=2)(a:List Ob):jB c a a:=by simp[jB,h]
def CO(a:List Ob)(o:Ob):jB 3 a (a++[o]):=by
 simp only[jB];intro id h;exact cG h
def XN(σ:St)(id r:Nat)(row:List AV):jB 4 σ.aa (lZ σ id r row).aa:=by
 simp only[jB];rw[if_neg aac,if_neg aac,if_pos trivial];have key:∀ (x y:Ob),σ.aa[id]?=some x->qm x y->(σ.aa.set id y).length=σ.aa.length/\∀ (i:Nat) o o',σ.aa[i]?=some o->(σ.aa.set id y)[i]?=some o'->qm o o':=by
  intro x y hx jV;refine⟨Jy,λi o o' ho cD=>?_⟩;rw[List.getElem?_set]at cD;split at cD
  ·rename_i e;subst e;split at cD
   ·simp at cD;subst cD;rw[hx]at ho;simp at ho;subst ho;exact jV
   ·simp at cD
  ·rw[ho]at cD;simp at cD;subst cD;exact xy o
 unfold lZ;split
 ·rename_i cells h;exact key _ _ h trivial
 ·rename_i sz rows h;exact key _ _ h rfl
 ·exact⟨rfl,λi o o' ho cD=>by rw[ho]at cD;simp at cD;subst cD;exact xy o⟩
def xF:AV->Option Nat
 |.ref id _ _ _=>some id
 |.ptr id _ _=>some id
 |.dP id=>some id
 |_=>none
def lr(c:Nat)(a b:Option Ob):Prop :=
 if c=0 then True else if c=1 then ∀ o,a=some o->∃ o',b=some o'/\qm o o' else ∀ o,a=some o->b=some o
def nK(c:Nat)(l:List Operand)(σ:St)(e2:Nat->AV)(ob:List Ob):Prop :=
 (∀ x∈l,ev ⟨e2,ob⟩ x=ev σ x)/\(∀ x∈l,∀ id,xF (ev σ x)=some id->lr c σ.aa[id]? ob[id]?)
def Gk(P:Program)(o:Oper)(σ:St)(K:St->Prop)(c:Nat)(l:List Operand):Prop :=
 ∃ v os,jB c σ.aa os/\K ((⟨σ.env,os⟩:St).put o.dst v)/\∀ e2 ob cj (K2:St->Prop),nK c l σ e2 ob->(if c<=2 then cj=ob else ob=σ.aa/\cj=os)->K2 ((⟨e2,cj⟩:St).put o.dst v)->bM P o ⟨e2,ob⟩ K2
theorem dA{o:Oper}{σ:St}{K:St->Prop}{c:Nat}{l:List Operand}{v:AV}(hW:K (σ.put o.dst v))(h:∀ e2 ob (K2:St->Prop),nK c l σ e2 ob->K2 ((⟨e2,ob⟩:St).put o.dst v)->bM P o ⟨e2,ob⟩ K2)(hc:c<=2:=by simp[cls]):Gk P o σ K c l :=
 ⟨v,σ.aa,XM _ hc _,hW,fun e2 ob cj K2 hx ho ed=>h e2 ob K2 hx (by rw[if_pos hc]at ho;subst ho;exact ed)⟩
def dB{o:Oper}{σ:St}{K:St->Prop}{c:Nat}{l:List Operand}{v:AV}{os:List Ob}(hc:3<=c)(he:jB c σ.aa os)(hW:K ((⟨σ.env,os⟩:St).put o.dst v))(h:∀ e2 (_:List Ob) (K2:St->Prop),nK 0 l σ e2 σ.aa->K2 ((⟨e2,os⟩:St).put o.dst v)->bM P o ⟨e2,σ.aa⟩ K2):Gk P o σ K c l :=
 ⟨v,os,he,hW,λe2 ob cj K2 hx ho ed=>by rw[if_neg Bv]at ho;obtain⟨rfl,rfl⟩:=ho;exact h e2 σ.aa K2 ⟨hx.1,λ_ _ _ _=>by simp[lr]⟩ ed⟩
def parts_eq{parts:Array (Nat×Operand)}{σ τ:St}(h:∀ x∈parts.toList.map (·.2),ev τ x=ev σ x):
  (parts.toList.map λp=>(p.1,ev τ p.2))=(parts.toList.map λp=>(p.1,ev σ p.2))/\(parts.toList.all λp=>(cellsOf (ev τ p.2)).all ca)=(parts.toList.all λp=>(cellsOf (ev σ p.2)).all ca):=by
 have hp:(parts.toList.map λp=>(p.1,ev τ p.2))=(parts.toList.map λp=>(p.1,ev σ p.2)):=qX λp hp=>by rw[h _ (BC hp)]
 exact⟨hp,by simpa [List.all_map,Function.comp_def] using congrArg (·.all λq=>(cellsOf q.2).all ca) hp⟩
def O2{t:Ty}{cells:List AV}{c:Nat}{K:AV->Prop}(h:kf t cells c K):∃v,K v/\∀ K2:AV->Prop,K2 v->kf t cells c K2:=by
 unfold kf at h ⊢;split at h
 ·exact⟨_,h.2,λK2 hK=>by simp_all⟩
 ·split at h<;>first|exact h.elim|exact⟨_,h,λK2 hK=>by simp_all⟩
def XO{k:IntKind}{p q:Int}{K:Value->Prop}(h:rJ k p q K):∃v,K v/\∀ K2:Value->Prop,K2 v->rJ k p q K2:=by
 by_cases hk:k=.u64
 ·rw[rJ,if_pos hk]at h;exact⟨_,h,λK2 h2=>by rw[rJ,if_pos hk];exact h2⟩
 ·rw[rJ,if_neg hk]at h;exact⟨_,h.2,λK2 h2=>by rw[rJ,if_neg hk];exact⟨h.1,h2⟩⟩
def XQ{k:IntKind}{p:Int}{K:Value->Prop}(h:qj k p K):∃v,K v/\∀ K2:Value->Prop,K2 v->qj k p K2:=by
 by_cases hk:k=.u64
 ·rw[qj,if_pos hk]at h;exact⟨_,h,λK2 h2=>by rw[qj,if_pos hk];exact h2⟩
 ·rw[qj,if_neg hk]at h;exact⟨_,h.2,λK2 h2=>by rw[qj,if_neg hk];exact⟨h.1,h2⟩⟩
def XR{op:BinOp}{k:IntKind}{p q:Int}{K:Value->Prop}(h:fe op k p q K):∃v,K v/\∀ K2:Value->Prop,K2 v->fe op k p q K2:=by
 unfold fe at h ⊢;split at h<;>first|exact XO h|exact⟨_,h.2,λK2 h'=>⟨h.1,h'⟩⟩|exact⟨_,h,λK2 h=>h⟩|exact h.elim
def XS{σ:St}{e:Nat->AV}{ob:List Ob}{id r:Nat}{row:List AV}(h:∀ o,σ.aa[id]?=some o->ob[id]?=some o)(hr:rowOf σ id r=some row):rowOf ⟨e,ob⟩ id r=some row:=by
 unfold rowOf at hr ⊢;cases ho:σ.aa[id]?<;>simp_all
def XT{σ:St}{e:Nat->AV}{ob:List Ob}{v:AV}{q:Nat×Nat×List (List Int×AV)}(h:∀ id,v=.dP id->∀ o,σ.aa[id]?=some o->ob[id]?=some o)(hm:jQ σ v=some q):jQ ⟨e,ob⟩ v=some q:=by
 unfold jQ at hm ⊢;split at hm
 ·rename_i id;split at hm
  ·rename_i ag L ho;have:=h id rfl _ ho;simp only[this];exact hm
  ·cases hm
 ·cases hm
def Pu{o:Oper}{σ:St}{K:St->Prop}(hW:bM P o σ K):Gk P o σ K (cls o.op) o.op.operands.toList:=by
 obtain⟨dst,op,type,pos,after,guard⟩:=o;unfold bM at hW;cases op
 case call c =>
  obtain⟨callee,args,argTypes⟩:=c;cases callee<;>try exact hW.elim
  rename_i b;cases b<;>try exact hW.elim
  all_goals simp only at hW
  case append =>
   (repeat' split at hW)<;>try exact hW.elim
   rename_i s x t t' bR fJ _ _ _ _ z pre σ1 sz src hk hz zL qo;have sX:σ1=⟨σ.env,σ1.aa⟩/\∀ e,n8 ⟨e,σ.aa⟩ (ty P (ty P t).elem).size (ev σ s)=some (pre,⟨e,σ1.aa⟩):=by
    unfold n8 at zL ⊢;(repeat' split at zL)<;>simp_all
    all_goals obtain⟨rfl,rfl⟩:=zL;simp
   refine dB (os:=σ1.aa++[.arr sz (pre++src)]) (by simp[cls]) trivial (by have:=hW.2;rw[sX.1]at this;exact this) λe2 ob K2 hx ed=>?_;have oy:l4 ⟨e2,σ.aa⟩ (ev σ x)=some (sz,src):=qo;unfold bM;simp[nK,Op.operands,Call.operands,bR]at hx;simp only[bR,fJ,hx.1.1,hx.1.2,hk,hz,sX.2,oy];exact⟨hW.1,ed⟩
  case copy =>
   (repeat' split at hW)<;>try exact hW.elim
   rename_i bR fJ _ _ id _ _ _ _ src he qo _ _ _ ho;refine dB (by simp[cls]) trivial hW.2 λe2 ob K2 hx ed=>?_;have oy:l4 ⟨e2,σ.aa⟩ _=_:=qo;unfold bM;simp[nK,Op.operands,Call.operands,bR]at hx;simp only[bR,fJ,hx.1.1,hx.1.2,he,oy,ho];exact⟨hW.1,ed⟩
  case clear =>
   (repeat' split at hW)<;>try exact hW.elim
   rename_i bR fJ _ _ id _ _ _ _ he hz _ _ _ ho;refine dB (by simp[cls]) trivial hW.2 λe2 ob K2 hx ed=>?_;unfold bM;simp[nK,Op.operands,Call.operands,bR]at hx;simp only[bR,fJ,hx,he,hz,ho];exact⟨hW.1,ed⟩
  all_goals(repeat' split at hW)<;>first|exact hW.elim|exact hW.2.elim|refine dA hW ?_|refine dA hW.2 ?_|refine dA hW.2.2 ?_
  all_goals
   intro e2 ob K2 hx ed;unfold bM;simp[nK,Op.operands,Call.operands,xF,lr,cls, *]at hx ⊢;first|done|(simp_all;done)|(obtain⟨_,o',_,hk⟩:=hx;cases o'<;>simp_all [qm];done)
 case load t x =>
  simp only at hW;obtain⟨hk,hW⟩:=hW;(repeat' split at hW)<;>try exact hW.elim
  all_goals
   obtain⟨v,hK,hl⟩:=O2 hW;refine dA hK λe2 ob K2 hx ed=>?_;unfold bM;simp[nK,Op.operands,xF,lr,cls, *]at hx;first|simp only[hx.1,XS hx.2 ‹rowOf _ _ _=_›]|simp only[hx]
   exact⟨hk,hl _ ed⟩
 case store t x y =>
  simp only at hW;obtain⟨hk,hW⟩:=hW;(repeat' split at hW)<;>try exact hW.elim
  rename_i id r c he _ row bf;have sX:∀ row,lZ σ id r row=⟨σ.env,(lZ σ id r row).aa⟩/\∀ e,lZ ⟨e,σ.aa⟩ id r row=⟨e,(lZ σ id r row).aa⟩:=by
   intro row;unfold lZ;simp only;split<;>simp_all
  refine dB (by simp[cls]) (XN _ _ _ _) (by have:=hW.2;rw[(sX _).1]at this;exact this) λe2 ob K2 hx ed=>?_;have gZ:rowOf ⟨e2,σ.aa⟩ id r=some row:=bf;unfold bM;simp only[hx.1 x (by simp[Op.operands]),hx.1 y (by simp[Op.operands]),he,gZ];rw[(sX _).2];exact⟨hk,hW.1,ed⟩
 case build t parts =>
  simp only at hW;(repeat' split at hW)<;>first|exact hW.elim|refine dA hW.2 ?_
  all_goals
   intro e2 ob K2 hx ed;obtain⟨h1,h2⟩:=parts_eq (parts:=parts) (by simpa [Op.operands] using hx.1);unfold bM;simp only[h1,h2, *];simp[hW.1]
 case buildSlice t _ parts =>
  simp only at hW;(repeat' split at hW)<;>first|exact hW.elim|refine dB (aM 3) (CO _ _) hW.2 ?_
  intro e2 ob K2 hx ed;obtain⟨h1,h2⟩:=parts_eq (parts:=parts) (by simpa [Op.operands] using hx.1);unfold bM;simp only[h1,h2, *];simp[hW.1]
 case makeFunc fn first captured =>
  simp only at hW;split at hW<;>first|exact hW.elim|refine dA hW.2 λe2 ob K2 hx ed=>?_
  unfold bM;simp only[qX (l:=captured.toList) (f:=ev ⟨e2,ob⟩) (g:=ev σ) λy hy=>hx.1 y (by simp only[Op.operands,BB,List.mem_append];exact .inr hy)];exact⟨hW.1,ed⟩
 case unOp op t x =>
  simp only at hW;split at hW
  ·rename_i b he;refine dA hW λe2 ob K2 hx ed=>?_;unfold bM;simp[nK,Op.operands]at hx;simp only[hx.1,he];exact ed
  ·rename_i k p he;obtain⟨v,hK,hl⟩:=XQ hW;refine dA hK λe2 ob K2 hx ed=>?_;unfold bM;simp[nK,Op.operands]at hx;simp only[hx.1,he];exact hl _ ed
  ·exact hW.elim
 case binOp op t x y yt =>
  simp only at hW;split at hW
  ·rename_i k p k' q he hf;obtain⟨hk,hW⟩:=hW;obtain⟨v,hK,hl⟩:=XR hW;refine dA hK λe2 ob K2 hx ed=>?_;unfold bM;simp[nK,Op.operands,he,hf]at hx;simp only[hx.1.1,hx.1.2];exact⟨hk,hl _ ed⟩
  all_goals(repeat' split at hW)<;>first|exact hW.elim|exact hW.2.elim|refine dA hW.2 ?_
  all_goals
   intro e2 ob K2 hx ed;unfold bM;simp[nK,Op.operands, *]at hx ⊢;first|done|(simp_all;done)
 case slice t x lo hi mx =>
  simp only at hW;obtain⟨hk,dk,rfl,hW⟩:=hW;cases lo<;>cases hi<;>simp only[fN,Option.map_none]at hW;all_goals(repeat' split at hW)<;>first|exact hW.elim|exact hW.2.elim|exact hW.2.2.elim|refine dA hW.2 ?_|refine dA hW.2.2 ?_|refine dA hW.2.2.2 ?_
  all_goals
   intro e2 ob K2 hx ed;unfold bM;simp only[cL.injEq]at *;simp[nK,Op.operands,xF,lr,cls, *]at hx ⊢;first|done|(simp_all;done)|(obtain⟨_,o',_,hk⟩:=hx;cases o'<;>simp_all [qm];done)|(obtain⟨_,⟨o',_,hk⟩,_⟩:=hx;cases o'<;>simp_all [qm];done)|trace_state
 case makeMap t r =>
  simp only at hW;obtain⟨⟨rfl,hk⟩,hK⟩:=hW;refine dB (aM 3) (CO _ _) hK λe2 ob K2 hx ed=>?_;unfold bM;exact⟨⟨rfl,hk⟩,ed⟩
 case lookup t x i ok =>
  simp only at hW;split at hW
  ·rename_i ag l id gA L z ig m5 ko;refine dA hW.2 λe2 ob K2 hx ed=>?_;have h1:=hx.1 x (by simp[Op.operands]);have h2:=hx.1 i (by simp[Op.operands]);have h3:jQ ⟨e2,ob⟩ (ev σ x)=some (id,gA,L):=XT (λuC cO o ho=>by
    have:=hx.2 x (by simp[Op.operands]) uC (by rw[cO];rfl);unfold lr at this;simp[cls]at this;exact this o ho) m5
   unfold bM;simp only[h1,h2,ig,h3,ko];exact⟨hW.1,ed⟩
  ·exact hW.elim
 case mapUpdate t m k x =>
  simp only at hW;split at hW
  ·rename_i ig m5;obtain⟨jO,zM⟩:=hW;refine dB (v:=.undef) (os:=_) (by simp[cls]) trivial zM λe2 ob K2 hx ed=>?_;have h1:=hx.1 m (by simp[Op.operands]);have h2:=hx.1 k (by simp[Op.operands]);have h3:=hx.1 x (by simp[Op.operands]);have h4:jQ ⟨e2,σ.aa⟩ (ev σ m)=_:=m5;unfold bM;simp only[h1,h2,h3,ig,h4];exact⟨jO,ed⟩
  ·exact hW.elim
 case mapEntry t m k =>
  simp only at hW;split at hW
  ·rename_i ig m5 ko;obtain⟨jO,zM⟩:=hW;refine dB (v:=_) (os:=_) (by simp[cls]) trivial zM λe2 ob K2 hx ed=>?_;have h1:=hx.1 m (by simp[Op.operands]);have h2:=hx.1 k (by simp[Op.operands]);have h4:jQ ⟨e2,σ.aa⟩ (ev σ m)=_:=m5;unfold bM;simp only[h1,h2,ig,h4,ko];exact⟨jO,ed⟩
  ·exact hW.elim
 case entryStore t m s x =>
  simp only at hW;split at hW
  ·rename_i hs m5;obtain⟨jO,zM⟩:=hW;refine dB (v:=.undef) (os:=_) (by simp[cls]) trivial zM λe2 ob K2 hx ed=>?_;have h1:=hx.1 m (by simp[Op.operands]);have h2:=hx.1 s (by simp[Op.operands]);have h3:=hx.1 x (by simp[Op.operands]);have h4:jQ ⟨e2,σ.aa⟩ (ev σ m)=_:=m5;unfold bM;simp only[h1,h2,h3,hs,h4];exact⟨jO,ed⟩
  ·exact hW.elim
 all_goals(try simp only at hW);(try exact hW.elim)
 all_goals(repeat' split at hW)<;>first|exact hW.elim|exact hW.2.elim|exact hW.2.2.elim|refine dA hW ?_|refine dA hW.2 ?_|refine dA hW.2.2 ?_|refine dA hW.2.2.2 ?_|refine dB (aM 3) (CO _ _) hW.2 ?_|refine dB (aM 3) (CO _ _) hW.2.1 ?_
 all_goals
  intro e2 ob K2 hx ed;unfold bM;simp[nK,Op.operands,xF,lr,cls,-eS, *]at hx ⊢;first|done|(simp_all;done)|(obtain⟨_,rfl,_⟩:=hW;simp_all;done)|(obtain⟨_,o',_,hk⟩:=hx;cases o'<;>simp_all [qm];done)
def WU{o:Oper}{σ:St}{K:St->Prop}(hW:bM P o σ K):
  ∃ v os,jB (cls o.op) σ.aa os/\K ((⟨σ.env,os⟩:St).put o.dst v)/\∀ (e2:Nat->AV) (K2:St->Prop),(∀ x∈o.op.operands.toList,ev ⟨e2,σ.aa⟩ x=ev σ x)->K2 ((⟨e2,os⟩:St).put o.dst v)->bM P o ⟨e2,σ.aa⟩ K2:=by
 obtain⟨v,os,h1,h2,h3⟩:=Pu hW;refine⟨v,os,h1,h2,λe2 K2 hx hK=>h3 e2 _ os K2 ⟨hx,λ_ _ _ _=>?_⟩ ?_ hK⟩
 ·unfold lr;(repeat' split)<;>first|trivial|exact λo ho=>ho|exact λo ho=>⟨o,ho,xy o⟩
 ·split
  ·rename_i hc;simpa [jB,hc] using h1
  ·exact⟨rfl,rfl⟩
def WW{o:Oper}{σ:St}{K:St->Prop}(hc:cls o.op<=2)(hW:bM P o σ K):
  ∃ v,K (σ.put o.dst v)/\∀ (σ2:St) (K2:St->Prop),(∀ x∈o.op.operands.toList,ev σ2 x=ev σ x)->(∀ x∈o.op.operands.toList,∀ id,xF (ev σ x)=some id->lr (cls o.op) σ.aa[id]? σ2.aa[id]?) ->
   K2 (σ2.put o.dst v)->bM P o σ2 K2:=by
 obtain⟨v,os,h1,h2,h3⟩:=Pu hW;simp only[jB,hc,if_true]at h1 h3;subst h1;exact⟨v,h2,λσ2 K2 hx ho hK=>h3 σ2.env σ2.aa _ K2 ⟨hx,ho⟩ rfl hK⟩
end Go.Am

