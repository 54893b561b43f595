import Derived.Test.YtfoopmojjjpapaaGreatX03
set_option linter.all false
set_option maxHeartbeats 0
set_option maxRecDepth 20000
open Bool renaming and_eq_true→bc
open List renaming mem_cons→bu,mem_of_getElem?→hZ,getElem?_map→bM,getElem?_cons_zero→wZ,getElem?_append_left→fe,getElem?_set_ne→gT,getElem?_cons_succ→vB,getElem?_append_right→iq,length_cons→du,eq_nil_of_length_eq_zero→AQ,getElem?_eq_some_iff→aY,getD_eq_getElem?_getD→ay,mem_map_of_mem→Ew,length_map→gD,mem_map→bY,all_eq_true→gA,nodup_nil→Hd,map_congr_left→tZ
open Option renaming map_eq_some_iff→wT,some→cH,map_some→fc
open Nat renaming lt_or_ge→dT,le_refl→aZ
open Array renaming toList_append→CM,getD_eq_getD_getElem?→eU,getElem?_append_left→Ha,getElem?_toList→Ex,getElem?_map→QK
namespace Go.Am
variable {P:Program}
mutual
def br(ρ:Nat->Nat):AV->AV
 |.ref id sz off len=>.ref (ρ id) sz off len
 |.ptr id r c=>.ptr (ρ id) r c
 |.agg cs=>.agg (pL ρ cs)
 |.bC cs=>.bC (pL ρ cs)
 |.fn f cs=>.fn f (pL ρ cs)
 |.iU t v=>.iU t (br ρ v)
 |.dD id=>.dD (ρ id)
 |v=>v
def pL(ρ:Nat->Nat):List AV->List AV
 |[]=>[]
 |v::vs=>br ρ v::pL ρ vs
end
def yA(ρ:Nat->Nat)(l:List AV):pL ρ l=l.map (br ρ):=by
 induction l with
 |nil=>simp[pL]
 |cons v l ih=>simp[pL,ih]
def bO(ρ:Nat->Nat):Ob->Ob
 |.gone=>.gone
 |.var cs=>.var (cs.map (br ρ))
 |.arr sz rows=>.arr sz (rows.map (·.map (br ρ)))
 |.mp ag L=>.mp ag (L.map λp=>(p.1,br ρ p.2))
mutual
def flat:AV->Bool
 |.tree ..=>false
 |.b6 _=>false
 |.agg cs=>C6 cs
 |.bC cs=>C6 cs
 |.fn _ cs=>C6 cs
 |.iU _ v=>flat v
 |_=>true
def C6:List AV->Bool
 |[]=>true
 |v::vs=>flat v&&C6 vs
end
def LA{l:List AV}(h:C6 l=true):∀ v∈l,flat v=true:=by
 induction l with
 |nil=>intro v hv;simp at hv
 |cons x l ih =>
  simp only[C6,bc]at h;intro v hv;rcases bu.1 hv with rfl|hv
  ·exact h.1
  ·exact ih h.2 v hv
def CW:Ob->Prop
 |.gone=>True
 |.var cs=>∀ v∈cs,flat v=true
 |.arr _ rows=>∀ row∈rows,∀ v∈row,flat v=true
 |.mp _ L=>∀ p∈L,flat p.2=true
def aw.afN{os:List Ob}{w:World}{Z Z':Nat->Prop}{blk:gU}{v:AV}{cv:Value}(h:aw os w Z blk v cv)(hf:flat v=true):aw os w Z' blk v cv:=by
 induction h with
 |undef cv=>exact .undef cv
 |cN v cv h=>cases h<;>first|exact .cN _ _ (.lit _)|simp[flat]at hf
 |b6=>simp[flat]at hf
 |lA id sz off len cv h h1=>exact .lA id sz off len cv h h1
 |og id r c cv h h1=>exact .og id r c cv h h1
 |ref id sz off len b o cap cap' rows h hb hl hc j6=>exact .ref id sz off len b o cap cap' rows h hb hl hc j6
 |ng id sz h hb=>exact .ng id sz h hb
 |nJ id sz off b x bo rows h hb hl=>exact .nJ id sz off b x bo rows h hb hl
 |oX id c b cap cells h hb=>exact .oX id c b cap cells h hb
 |pM id r c sz b o cap rows h hb=>exact .pM id r c sz b o cap rows h hb
 |agg cs bq hs _ ih=>simp only[flat]at hf;exact .agg cs bq hs (λj x hx=>ih j x hx (LA hf x (hZ hx)))
 |bC cs bq hs _ ih=>simp only[flat]at hf;exact .bC cs bq hs (λj x hx=>ih j x hx (LA hf x (hZ hx)))
 |fn f cs bq hs _ ih=>simp only[flat]at hf;exact .fn f cs bq hs (λj x hx=>ih j x hx (LA hf x (hZ hx)))
 |iU t v cv _ ih=>simp only[flat]at hf;exact .iU t v cv (ih hf)
 |dD id b ag L h hb=>exact .dD id b ag L h hb
 |rP id cv h h1=>exact .rP id cv h h1
def aw.up{os ij:List Ob}{w:World}{Z Z':Nat->Prop}{blk kv:gU}{ρ:Nat->Nat}{v:AV}{cv:Value}(h:aw os w Z blk v cv)(hz:∀ b,Z b->Z' b)(ho:∀ j o,os[j]?=some o->ij[ρ j]?=some (bO ρ o)/\(o≠.gone->kv (ρ j)=blk j)):aw ij w Z' kv (br ρ v) cv:=by
 induction h with
 |undef cv=>exact .undef cv
 |cN v cv h =>
  have h':aw ij w Z' kv v cv:=.cN _ _ (h.mono (λb hb=>⟨hz b hb,rfl⟩));cases h<;>simpa [br] using h'
 |b6 cells b o f ux hc ht=>exact .b6 cells b o f (hz b ux) hc (λj x hx=>(ht j x hx).mono (λb hb=>⟨hz b hb,rfl⟩))
 |lA id sz off len cv h h1=>exact .lA _ sz off len cv (ho id _ h).1 h1
 |og id r c cv h h1=>exact .og _ r c cv (ho id _ h).1 h1
 |ref id sz off len b o cap cap' rows h hb hl hc j6 =>
  obtain⟨h1,h2⟩:=ho id _ h;exact .ref _ sz off len b o cap cap' _ h1 ((h2 G9).trans hb) (by simpa using hl) hc j6
 |ng id sz h hb =>
  obtain⟨h1,h2⟩:=ho id _ h;exact .ng _ sz h1 ((h2 G9).trans hb)
 |nJ id sz off b x bo rows h hb hl =>
  obtain⟨h1,h2⟩:=ho id _ h;exact .nJ _ sz off b x bo _ h1 ((h2 G9).trans hb) (by simpa using hl)
 |oX id c b cap cells h hb =>
  obtain⟨h1,h2⟩:=ho id _ h;exact .oX _ c b cap _ h1 ((h2 G9).trans hb)
 |pM id r c sz b o cap rows h hb =>
  obtain⟨h1,h2⟩:=ho id _ h;exact .pM _ r c sz b o cap _ h1 ((h2 G9).trans hb)
 |agg cs bq hs _ ih =>
  simp only[br,yA];refine .agg _ bq (by simpa using hs) (λj x hx=>?_);simp only[bM,wT]at hx;obtain⟨y,hy,rfl⟩:=hx;exact ih j y hy
 |bC cs bq hs _ ih =>
  simp only[br,yA];refine .bC _ bq (by simpa using hs) (λj x hx=>?_);simp only[bM,wT]at hx;obtain⟨y,hy,rfl⟩:=hx;exact ih j y hy
 |fn f cs bq hs _ ih =>
  simp only[br,yA];refine .fn f _ bq (by simpa using hs) (λj x hx=>?_);simp only[bM,wT]at hx;obtain⟨y,hy,rfl⟩:=hx;exact ih j y hy
 |iU t v cv _ ih=>simp only[br];exact .iU t _ cv ih
 |dD id b ag L h hb =>
  obtain⟨h1,h2⟩:=ho id _ h;exact .dD _ b ag _ h1 ((h2 G9).trans hb)
 |rP id cv h h1=>exact .rP _ cv (ho id _ h).1 h1
def EO{ρ:Nat->Nat}{o:Ob}:bO ρ o=.gone↔o=.gone:=by cases o<;>simp[bO]
def Ob.afO{ρ:Nat->Nat}{x y:Ob}(h:x.ew y):(bO ρ x).ew (bO ρ y):=by
 cases x<;>cases y<;>simp[Ob.ew,bO]at h ⊢<;>exact h
def aw.down{os ij:List Ob}{w:World}{Z Z':Nat->Prop}{blk kv:gU}{ρ:Nat->Nat}{v:AV}{cv:Value}(h:aw os w Z blk v cv)(hz:∀ b,Z b->Z' b)(ho:∀ j x,os[ρ j]?=some x->∃ o,ij[j]?=some o/\(o=.gone\/(x=bO ρ o/\kv j=blk (ρ j)))):∀ v',v=br ρ v'->aw ij w Z' kv v' cv:=by
 induction h with
 |undef cv=>intro v' hv;cases v'<;>simp[br]at hv;exact .undef cv
 |cN v cv h =>
  intro v' hv;have h':aw ij w Z' kv v cv:=.cN _ _ (h.mono (λb hb=>⟨hz b hb,rfl⟩));cases h<;>cases v'<;>simp[br]at hv<;>(first|(subst hv;exact h')|(obtain⟨rfl,rfl⟩:=hv;exact h'))
 |b6 cells b o f ux hc ht =>
  intro v' hv;cases v'<;>simp[br]at hv;subst hv;exact .b6 _ b o f (hz b ux) hc (λj x hx=>(ht j x hx).mono (λb hb=>⟨hz b hb,rfl⟩))
 |lA id sz off len cv h h1 =>
  intro v' hv;cases v'<;>simp[br]at hv;obtain⟨rfl,rfl,rfl,rfl⟩:=hv;obtain⟨o,h2,rfl |⟨h3,_⟩⟩:=ho _ _ h
  ·exact .lA _ _ _ _ cv h2 h1
  ·have:=EO.1 h3.symm;subst this;exact .lA _ _ _ _ cv h2 h1
 |og id r c cv h h1 =>
  intro v' hv;cases v'<;>simp[br]at hv;obtain⟨rfl,rfl,rfl⟩:=hv;obtain⟨o,h2,rfl |⟨h3,_⟩⟩:=ho _ _ h
  ·exact .og _ _ _ cv h2 h1
  ·have:=EO.1 h3.symm;subst this;exact .og _ _ _ cv h2 h1
 |ref id sz off len b o cap cap' rows h hb hl hc j6 =>
  intro v' hv;cases v'<;>simp[br]at hv;obtain⟨rfl,rfl,rfl,rfl⟩:=hv;obtain⟨x,h2,rfl |⟨h3,h4⟩⟩:=ho _ _ h
  ·exact .lA _ _ _ _ _ h2 rfl
  ·cases x<;>simp[bO]at h3;obtain⟨rfl,rfl⟩:=h3;exact .ref _ _ _ _ b o cap cap' _ h2 (h4.trans hb) (by simpa using hl) hc j6
 |ng id sz h hb =>
  intro v' hv;cases v'<;>simp[br]at hv;obtain⟨rfl,rfl,rfl,rfl⟩:=hv;obtain⟨x,h2,rfl |⟨h3,h4⟩⟩:=ho _ _ h
  ·exact .lA _ _ _ _ _ h2 rfl
  ·cases x<;>simp[bO]at h3;obtain⟨rfl,h3⟩:=h3;subst h3;exact .ng _ _ h2 (h4.trans hb)
 |nJ id sz off b x bo rows h hb hl =>
  intro v' hv;cases v'<;>simp[br]at hv;obtain⟨rfl,rfl,rfl,rfl⟩:=hv;obtain⟨y,h2,rfl |⟨h3,h4⟩⟩:=ho _ _ h
  ·exact .lA _ _ _ _ _ h2 rfl
  ·cases y<;>simp[bO]at h3;obtain⟨rfl,rfl⟩:=h3;exact .nJ _ _ _ b x bo _ h2 (h4.trans hb) (by simpa using hl)
 |oX id c b cap cells h hb =>
  intro v' hv;cases v'<;>simp[br]at hv;obtain⟨rfl,rfl,rfl⟩:=hv;obtain⟨y,h2,rfl |⟨h3,h4⟩⟩:=ho _ _ h
  ·exact .og _ _ _ _ h2 rfl
  ·cases y<;>simp[bO]at h3;exact .oX _ _ b cap _ h2 (h4.trans hb)
 |pM id r c sz b o cap rows h hb =>
  intro v' hv;cases v'<;>simp[br]at hv;obtain⟨rfl,rfl,rfl⟩:=hv;obtain⟨y,h2,rfl |⟨h3,h4⟩⟩:=ho _ _ h
  ·exact .og _ _ _ _ h2 rfl
  ·cases y<;>simp[bO]at h3;obtain⟨rfl,rfl⟩:=h3;exact .pM _ _ _ _ b o cap _ h2 (h4.trans hb)
 |agg cs bq hs _ ih =>
  intro v' hv;cases v'<;>simp[br,yA]at hv;rename_i td;subst hv;exact .agg _ bq (by simpa using hs) (λj x hx=>ih j (br ρ x) (by simp[hx]) x rfl)
 |bC cs bq hs _ ih =>
  intro v' hv;cases v'<;>simp[br,yA]at hv;rename_i td;subst hv;exact .bC _ bq (by simpa using hs) (λj x hx=>ih j (br ρ x) (by simp[hx]) x rfl)
 |fn f cs bq hs _ ih =>
  intro v' hv;cases v'<;>simp[br,yA]at hv;obtain⟨rfl,hv⟩:=hv;subst hv;exact .fn _ _ bq (by simpa using hs) (λj x hx=>ih j (br ρ x) (by simp[hx]) x rfl)
 |iU t v cv _ ih =>
  intro v' hv;cases v'<;>simp[br]at hv;obtain⟨rfl,hv⟩:=hv;exact .iU _ _ cv (ih _ hv)
 |dD id b ag L h hb =>
  intro v' hv;cases v'<;>simp[br]at hv;subst hv;obtain⟨y,h2,rfl |⟨h3,h4⟩⟩:=ho _ _ h
  ·exact .rP _ _ h2 rfl
  ·cases y<;>simp[bO]at h3;obtain⟨rfl,h3⟩:=h3;exact .dD _ b _ _ h2 (h4.trans hb)
 |rP id cv h h1 =>
  intro v' hv;cases v'<;>simp[br]at hv;subst hv;obtain⟨y,h2,rfl |⟨h3,h4⟩⟩:=ho _ _ h
  ·exact .rP _ _ h2 h1
  ·exact .rP _ _ (by rw[h2,EO.1 h3.symm]) h1
def LB(P : Program)(f : FuncId): Prop := ∃ fn, P.funcs[f]? = some fn /\ (fn.name == "runtime.NumGoroutine") = false /\ fn.body.isNone = false
def Holds(P:Program)(f:FuncId)(args:List AV)(aa:List Ob)(res:AV)(bh:List Ob):Prop :=
 LB P f/\∀ γ:Cx,γ.tmps.size=args.length->bz ⟨λk=>args.getD k .undef,aa⟩ γ ->
  Calls P f γ.tmps γ.w (λe w'=>∃ cv aC,e=.returned cv/\aC.w=w'/\aC.tmps = #[cv]/\bz ⟨λk=>[res].getD k .undef,bh⟩ aC/\Fr aa γ bh aC)
inductive cX(σ:St)(kp:Nat->Prop):AV->AV->Prop
 |lit (x:Value):cX σ kp (.lit x) (.lit x)
 |tree (s:Nat) (r:List (List AV)):cX σ kp (.tree s r) (.tree s r)
 |nil (sz:Nat):cX σ kp (.tree sz []) (.lit (.slice none 0 0))
 |ref (id sz off len:Nat) (rows iv:List (List AV)) (g:Nat->Nat->AV) (ho:σ.aa[id]?=some (.arr sz rows)) (uh:¬ kp id) (hl:iv.length=((rows.drop off).take len).length) (hw:∀ row∈iv,row.length=sz)
   (h1:∀ r c v,cellAt iv r c=some v->cellAt ((rows.drop off).take len) r c=some (g r c)) (h2:∀ r c v,cellAt iv r c=some v->cX σ kp v (g r c)):cX σ kp (.tree sz iv) (.ref id sz off len)
inductive a7(σ:St)(kp:Nat->Prop)(ρ:Nat->Nat)(snap:Bool):AV->AV->Prop
 |same (v:AV):a7 σ kp ρ snap v (br ρ v)
 |snap (c d:AV) (hs:snap=true) (h:cX σ kp c d):a7 σ kp ρ snap c d
 |agg (cs ds:List AV) (hl:cs.length=ds.length) (h:∀ (j:Nat) c d,cs[j]?=some c->ds[j]?=some d->a7 σ kp ρ snap c d):a7 σ kp ρ snap (.agg cs) (.agg ds)
 |bC (cs ds:List AV) (hl:cs.length=ds.length) (h:∀ (j:Nat) c d,cs[j]?=some c->ds[j]?=some d->a7 σ kp ρ snap c d):a7 σ kp ρ snap (.bC cs) (.bC ds)
def bE(n:Nat)(aj:List Nat)(j:Nat):Nat:=if j<aj.length then aj.getD j 0 else n+(j-aj.length)
def fF(aa:List Ob):List Nat->List Ob->List Ob
 |i::aj,o::new=>fF (aa.set i o) aj new
 |[],new=>aa++new
 |_::_,[]=>aa
def Lw(aj:List Nat):∀ (aa new:List Ob),aj.length<=new.length->(fF aa aj new).length=aa.length+(new.length-aj.length):=by
 induction aj with
 |nil=>intro aa new _;simp[fF]
 |cons i aj ih =>
  intro aa new h;cases new with
  |nil=>simp at h
  |cons o new=>simp only[fF];rw[ih _ _ (by simpa using h)];simp
def HE(aj:List Nat):∀ (aa new:List Ob),aj.length<=new.length->aj.Nodup->(∀ i∈aj,i<aa.length)->∀ j,j<aj.length->(fF aa aj new)[aj.getD j 0]?=new[j]?:=by
 induction aj with
 |nil=>intro aa new _ _ _ j hj;simp at hj
 |cons i aj ih =>
  intro aa new h hn hl j hj;cases new with
  |nil=>simp at h
  |cons o new =>
   simp only[fF];rw[List.nodup_cons]at hn;have hi:=hl i G9;have h':aj.length<=new.length:=by simpa using h
   cases j with
   |zero =>
    simp only[List.getD_cons_zero,wZ];have key:∀ (aj:List Nat) (aa new:List Ob),aj.length<=new.length->i ∉ aj->i<aa.length->(fF aa aj new)[i]?=aa[i]?:=by
     intro aj
     induction aj with
     |nil=>intro aa new _ _ hi;simp only[fF];rw[fe hi]
     |cons k aj ih2 =>
      intro aa new h xo hi;cases new with
      |nil=>simp at h
      |cons o new =>
       simp only[bu,not_or]at xo;simp only[fF];rw[ih2 _ _ (by simpa using h) xo.2 (by simpa using hi),gT (Ne.symm xo.1)]
    rw[key aj _ _ h' hn.1 (by simpa using hi)];simp[hi]
   |succ j =>
    simp only[List.getD_cons_succ,vB];exact ih _ _ h' hn.2 (λk hk=>by simpa using hl k (by simp[hk])) j (by simpa using hj)
def HF(aj:List Nat):∀ (aa new:List Ob),aj.length<=new.length->∀ i,i ∉ aj->i<aa.length->(fF aa aj new)[i]?=aa[i]?:=by
 induction aj with
 |nil=>intro aa new _ i _ hi;simp only[fF];rw[fe hi]
 |cons k aj ih =>
  intro aa new h i xo hi;cases new with
  |nil=>simp at h
  |cons o new =>
   simp only[bu,not_or]at xo;simp only[fF];rw[ih _ _ (by simpa using h) i xo.2 (by simpa using hi),gT (Ne.symm xo.1)]
def SK(aj:List Nat):∀ (aa new:List Ob),aj.length<=new.length->∀ m,(fF aa aj new)[aa.length+m]?=new[aj.length+m]?:=by
 induction aj with
 |nil=>intro aa new _ m;simp only[fF];rw[iq Ey];simp
 |cons k aj ih =>
  intro aa new h m;cases new with
  |nil=>simp at h
  |cons o new =>
   simp only[fF];have:=ih (aa.set k o) new (by simpa using h) m;simp only[List.length_set]at this;rw[this];simp only[du];have e:aj.length+1+m=(aj.length+m)+1:=Ey;rw[e];simp
end Go.Am
namespace Go.Am
variable {P:Program}
def HG(P:Program)(f:FuncId)(args:List AV)(σ:St)(K:AV->St->Prop):Prop :=
 ∃ (aj:List Nat) (snap:Bool) (dO:List AV) (b7:List Ob) (res:AV) (dm:List Ob),Holds P f dO b7 res dm /\
  (aj.Nodup/\b7.length=aj.length/\(∀ (j:Nat) o,b7[j]?=some o->σ.aa[aj.getD j 0]?=some (bO (bE σ.aa.length aj) o)) /\
   dO.length=args.length/\(∀ (j:Nat) c d,dO[j]?=some c->args[j]?=some d->a7 σ (·∈aj) (bE σ.aa.length aj) snap c d) /\
   (snap=true->flat res=true/\∀ o∈dm,CW o)) /\
  K (br (bE σ.aa.length aj) res) { σ with aa:=fF σ.aa aj (dm.map (bO (bE σ.aa.length aj))) }
def cX.Ba{σ:St}{γ:Cx}(h:bz σ γ){kp:Nat->Prop}{γc:Cx}(hz:∀ b,γ.Z b->γc.Z b)(hw:γc.w=γ.w)(LC:∀ id b o cap,¬ kp id->Live σ.aa id->γ.blk id=some (b,o,cap)->γc.Z b){c d:AV}(ha:cX σ kp c d):∀ cv,aw σ.aa γ.w γ.Z γ.blk d cv->iT γc.w γc.Z c cv:=by
 induction ha with
 |lit x=>intro cv hv;rw[hv.cO];exact .lit x
 |tree s r=>intro cv hv;exact hv.Bb.mono (λb hb=>⟨hz b hb,by rw[hw]⟩)
 |nil sz=>intro cv hv;rw[hv.cO];exact .nil sz 0 none
 |ref id sz off len rows iv g bS uh hl0 Hy um pI ih =>
  intro cv hv;obtain⟨h0,cV,hblk⟩:=h.ec id _ bS;have bW:Live σ.aa id:=⟨_,bS,G9⟩;cases hv with
  |cN _ _ h=>cases h
  |lA _ _ _ _ _ h=>rw[bS]at h;simp at h
  |ng _ _ h' hb =>
   have:iv=[]:=AQ (by simpa using hl0);subst this;exact iT.nil sz 0 none
  |nJ _ _ _ b x bo afQ h' hb hl =>
   have:iv=[]:=AQ (by simpa using hl0);subst this;exact iT.nil sz 0 (some ⟨b,x,none⟩)
  |ref _ _ _ _ b o cap cap' afQ h' hb hl hc j6 =>
   rw[bS]at h';simp at h';subst h';rcases hblk with⟨h1,_⟩|⟨b',o',EP,cur,t,h1,h2,h3,h4,h5,h6⟩
   ·rw[hb]at h1;simp at h1
   ·rw[hb]at h1;simp at h1;obtain⟨rfl,rfl,rfl⟩:=h1;have hlen:((rows.drop off).take len).length=len:=Hj;have xg:∀ r c v,cellAt ((rows.drop off).take len) r c=some v->cellAt rows (off+r) c=some v/\r<len:=by
     intro r c v hv;simp only[cellAt,List.getElem?_take,List.getElem?_drop]at hv;split at hv
     ·exact⟨hv,by assumption⟩
     ·simp at hv
    have K6:γc.Z b:=LC id b o cap uh bW hb;have:=iT.tree (w:=γc.w) (Z:=γc.Z) sz iv b (o+off*sz) cap' (λr c=>cur.getD (o+((off+r)*sz+c)) Go.undef) K6
     Hy (by rw[hl0,hlen];exact j6)
     (λr c v hv=>by
      obtain⟨vP,hr⟩:=xg r c _ (um r c v hv);obtain⟨xf,gq⟩:=ER cV vP;have aX:=Bd (show off+r<cap by omega) gq;rw[hw];have e:o+off*sz+(r*sz+c)=o+((off+r)*sz+c):=by rw[Nat.add_mul];omega
      rw[e];exact Be h2 Ey)
     (λr c v hv=>by
      obtain⟨vP,_⟩:=xg r c _ (um r c v hv);exact ih r c v hv _ (h6 _ _ _ vP))
    rw[hl0,hlen]at this;exact this
def a7.rel{σ:St}{γ:Cx}(h:bz σ γ){kp:Nat->Prop}{ρ:Nat->Nat}{b7:List Ob}{snap:Bool}{γc:Cx}(hz:∀ b,γ.Z b->γc.Z b)(hw:γc.w=γ.w)(LC:snap=true->∀ id b o cap,¬ kp id->Live σ.aa id->γ.blk id=some (b,o,cap)->γc.Z b)(ho:∀ j x,σ.aa[ρ j]?=some x->∃ o,b7[j]?=some o/\(o=.gone\/(x=bO ρ o/\γc.blk j=γ.blk (ρ j)))){c d:AV}(ha:a7 σ kp ρ snap c d):∀ cv,aw σ.aa γ.w γ.Z γ.blk d cv->aw b7 γc.w γc.Z γc.blk c cv:=by
 induction ha with
 |same v =>
  intro cv hv;rw[hw];exact hv.down hz ho v rfl
 |snap c d hs hf =>
  intro cv hv;exact .cN _ _ (hf.Ba h hz hw (LC hs) cv hv)
 |agg cs ds hl _ ih =>
  intro cv hv;obtain⟨bq,rfl,h1,h2⟩:=hv.SP;refine .agg cs bq Ey (λj x hx=>?_);have hj:j<ds.length:=by have:=(aY.1 hx).1;omega
  exact ih j x ds[j] hx (by simp[hj]) _ (h2 j _ (by simp[hj]))
 |bC cs ds hl _ ih =>
  intro cv hv;obtain⟨bq,rfl,h1,h2⟩:=hv.SQ;refine .bC cs bq Ey (λj x hx=>?_);have hj:j<ds.length:=by have:=(aY.1 hx).1;omega
  exact ih j x ds[j] hx (by simp[hj]) _ (h2 j _ (by simp[hj]))
def SR{n:Nat}{aj:List Nat}(_hs:∀ i∈aj,i<n){j:Nat}(h:bE n aj j<n):j<aj.length/\bE n aj j=aj.getD j 0:=by
 unfold bE at h ⊢;split
 ·exact⟨by assumption,rfl⟩
 ·rename_i hj;rw[if_neg hj]at h;omega
def aF{aj:List Nat}{j:Nat}(h:j<aj.length):aj.getD j 0∈aj:=by
 rw[ay];simp[h]
def SS{aj:List Nat}(hn:aj.Nodup){i j:Nat}(hi:i<aj.length)(hj:j<aj.length)(h:aj.getD i 0=aj.getD j 0):i=j:=by
 rw[ay,ay]at h;simp[hi,hj]at h;exact(List.getElem_inj hn).1 h
def HH{aj:List Nat}{i:Nat}(h:i∈aj):∃j,j<aj.length/\aj.getD j 0=i:=by
 obtain⟨j,hj⟩:=List.mem_iff_getElem?.1 h;have:=(aY.1 hj).1;exact⟨j,this,by rw[ay,hj];rfl⟩
def dv(P:Program)(f:FuncId)(args:List AV)(aa:List Ob)(iV:AV->List Ob->Prop):Prop :=
 LB P f/\∀ γ:Cx,γ.tmps.size=args.length->bz ⟨λk=>args.getD k .undef,aa⟩ γ ->
  Calls P f γ.tmps γ.w (λe w'=>∃ res bh cv aC,iV res bh/\e=.returned cv/\aC.w=w'/\aC.tmps = #[cv]/\bz ⟨λk=>[res].getD k .undef,bh⟩ aC/\Fr aa γ bh aC)
def LD(P:Program)(f:FuncId)(args:List AV)(σ:St)(K:AV->St->Prop):Prop :=
 ∃ (aj:List Nat) (snap:Bool) (dO:List AV) (b7:List Ob) (iV:AV->List Ob->Prop),dv P f dO b7 iV /\
  (aj.Nodup/\b7.length=aj.length/\(∀ (j:Nat) o,b7[j]?=some o->σ.aa[aj.getD j 0]?=some (bO (bE σ.aa.length aj) o)) /\
   dO.length=args.length/\(∀ (j:Nat) c d,dO[j]?=some c->args[j]?=some d->a7 σ (·∈aj) (bE σ.aa.length aj) snap c d)) /\
  ∀ res dm,iV res dm->(snap=true->flat res=true/\∀ o∈dm,CW o) /\
   K (br (bE σ.aa.length aj) res) { σ with aa:=fF σ.aa aj (dm.map (bO (bE σ.aa.length aj))) }
def SU{σ:St}{γ:Cx}(h:bz σ γ){f:FuncId}{args:List AV}{argv:Array Value}(aO:argv.size=args.length)(LF:∀ (j:Nat) d,args[j]?=some d->aw σ.aa γ.w γ.Z γ.blk d (argv.getD j Go.undef)){K:AV->St->Prop}(hc:LD P f args σ K):
  Calls P f argv γ.w (λe w'=>∃ cv v σ' aC,e=.returned cv/\aC.w=w'/\aC.tmps=γ.tmps/\bz σ' aC/\Fr σ.aa γ σ'.aa aC/\aw σ'.aa aC.w aC.Z aC.blk v cv/\K v σ'/\σ'.env=σ.env):=by
 obtain⟨aj,snap,dO,b7,iV,hH,⟨bG,bI,te,nh,oS⟩,hKP⟩:=hc;have jE:∀ i∈aj,i<σ.aa.length:=by
  intro i hi;obtain⟨j,hj,rfl⟩:=HH hi;have:j<b7.length:=Ey;exact(aY.1 (te j b7[j] (by simp[this]))).1
 let ρ:=bE σ.aa.length aj
 let S:Nat->Prop:=λb=>snap=true/\∃ id o cap,id ∉ aj/\Live σ.aa id/\γ.blk id=some (b,o,cap)
 let γc:Cx:={ w:=γ.w,tmps:=argv,Z:=λb=>γ.Z b\/S b,blk:=λj=>if j<aj.length then γ.blk (aj.getD j 0) else none }
 have yB:∀ j x,σ.aa[ρ j]?=some x->∃ o,b7[j]?=some o/\(o=.gone\/(x=bO ρ o/\γc.blk j=γ.blk (ρ j))):=by
  intro j x hx;obtain⟨hj,hr⟩:=SR jE (aY.1 hx).1;have nK:j<b7.length:=Ey;have:=te j b7[j] (by simp[nK]);refine⟨b7[j],by simp[nK],.inr ⟨?_,?_⟩⟩
  ·have cf:σ.aa[bE σ.aa.length aj j]?=some x:=hx;rw[hr,this]at cf;simpa using cf.symm
  ·show(if j<aj.length then γ.blk (aj.getD j 0) else none)=γ.blk (bE σ.aa.length aj j);rw[if_pos hj,hr]
 have jQ:∀ b,γ.Z b->γc.Z b:=λb hb=>.inl hb;have xp:∀ j,Live b7 j->Live σ.aa (aj.getD j 0)/\j<aj.length:=by
  rintro j⟨o,ho,hg⟩;have hj:=(aY.1 ho).1;exact⟨⟨_,te j o ho,λe=>hg (EO.1 e)⟩,Ey⟩
 have yC:=λ{i b o c}=>h.blt (i:=i) (b:=b) (o:=o) (c:=c);have LH:bz ⟨λk=>dO.getD k .undef,b7⟩ γc:=by
  refine⟨λk=>?_,?_,?_,?_,?_,λg=>zK (h.gl g) λb hb=>⟨jQ b hb,rfl⟩⟩
  ·rcases dT k dO.length with hk|hk
   ·have e:dO.getD k .undef=dO[k]:=by simp[hk]
    show aw b7 γc.w γc.Z γc.blk (dO.getD k .undef) _;rw[e];have oY:k<args.length:=Ey;exact(oS k dO[k] args[k] (by simp[hk]) (by simp[oY])).rel h jQ rfl (λhs id b o cap bZ hl hb=>.inr ⟨hs,id,o,cap,bZ,hl,hb⟩) yB _ (LF k _ (by simp[oY]))
   ·have e:dO.getD k .undef=.undef:=by simp[hk]
    show aw b7 γc.w γc.Z γc.blk (dO.getD k .undef) _;rw[e];exact .undef _
  ·intro j o ho;have hj:=(aY.1 ho).1;have ES:j<aj.length:=by rw[<- bI];exact hj
   have bS:=h.ec _ _ (te j o ho);have hb:γc.blk j=γ.blk (aj.getD j 0):=by show(if j<aj.length then _ else _)=_;rw[if_pos ES]
   cases o with
   |gone=>trivial
   |var cells =>
    obtain⟨b,cap,cur,t,h1,h2,h3,h4⟩:=bS;exact⟨b,cap,cur,t,hb.trans h1,h2,by simpa using h3,λc v hv=>(h4 c (br ρ v) (by simp[hv];rfl)).down jQ yB v rfl⟩
   |mp ag L =>
    obtain⟨b,f,h1,h2,h3,h4⟩:=bS;refine⟨b,f,hb.trans h1,?_,λp hp=>h3 (p.1,br ρ p.2) (Ew (f:=λp:List Int×AV=>(p.1,br ρ p.2)) hp),λj p hp=>(h4 j (p.1,br ρ p.2) (by simp only[bM,hp];rfl)).down jQ yB p.2 rfl⟩;rw[LI,gD]at h2;exact h2
   |arr sz rows =>
    obtain⟨h0,hr,bS⟩:=bS;refine⟨h0,λrow bK=>by simpa using hr (row.map (br ρ)) (Ew bK),?_⟩;rcases bS with⟨h1,h2⟩|⟨b,o,cap,cur,t,h1,h2,h3,h4,h5,h6⟩
    ·exact .inl ⟨hb.trans h1,by simpa using h2⟩
    ·refine .inr ⟨b,o,cap,cur,t,hb.trans h1,h2,h3,by simpa using h4,h5,λr c v hv=>(h6 r c (br ρ v) ?_).down jQ yB v rfl⟩;simp only[cellAt,bM]at hv ⊢;cases eV:rows[r]? with
     |none=>simp[eV]at hv
     |some row=>simp[eV]at hv ⊢;exact⟨v,hv,rfl⟩
  ·intro i j b o c o' c' hi hj eW iO;obtain⟨h1,h2⟩:=xp i hi;obtain⟨h3,h4⟩:=xp j hj;have e1:γc.blk i=γ.blk (aj.getD i 0):=by show(if i<aj.length then _ else _)=_;rw[if_pos h2]
   have e2:γc.blk j=γ.blk (aj.getD j 0):=by show(if j<aj.length then _ else _)=_;rw[if_pos h4]
   exact SS bG h2 h4 (h.inj _ _ b o c o' c' h1 h3 (e1▸eW) (e2▸iO))
  ·rintro b ⟨i,o,c,hi,hb⟩ hz;obtain⟨h1,h2⟩:=xp i hi;have e1:γc.blk i=γ.blk (aj.getD i 0):=by show(if i<aj.length then _ else _)=_;rw[if_pos h2]
   rw[e1]at hb;rcases hz with hz|⟨_,id,o',cap',bZ,hl,ba⟩
   ·exact h.nz b ⟨_,o,c,h1,hb⟩ hz
   ·have:=h.inj _ _ b o c o' cap' h1 hl hb ba;exact bZ (this▸aF h2)
  ·rintro b (hb|⟨_,id,o,cap,_,hl,hb⟩)
   ·exact h.gV b hb
   ·exact yC hl hb
 have pN:=hH.2 γc (by show argv.size=_;omega) LH;refine pN.mono ?_;rintro e w'⟨res,dm,cv,aC,LJ,rfl,rfl,K8,je,fS⟩;obtain⟨SV,hK⟩:=hKP res dm LJ;have afS:aj.length<=dm.length:=by have:=fS.len;omega
 let new:=dm.map (bO ρ)
 have ak:aj.length<=new.length:=by simpa [new] using afS
 let qN:=fF σ.aa aj new
 let jR:Cx:={ w:=aC.w,tmps:=γ.tmps,Z:=λb=>aC.Z b/\¬ S b,blk:=λi=>if i<σ.aa.length then γ.blk i else aC.blk (aj.length+(i-σ.aa.length)) }
 have oZ:∀ j o,dm[j]?=some o->qN[ρ j]?=some (bO ρ o)/\(o≠.gone->jR.blk (ρ j)=aC.blk j):=by
  intro j o ho;by_cases hj:j<aj.length
  ·have e:ρ j=aj.getD j 0:=by show bE _ _ _=_;simp only[bE];rw[if_pos hj]
   have bR:=jE _ (aF hj);refine⟨?_,λhg=>?_⟩
   ·rw[e];show(fF σ.aa aj new)[aj.getD j 0]?=_;rw[HE aj σ.aa new ak bG jE j hj];simp[new,ho]
   ·rw[e];show(if aj.getD j 0<σ.aa.length then _ else _)=_;rw[if_pos bR];have:=(fS.eK j Ey ⟨o,ho,hg⟩).1;rw[this];show _=if j<aj.length then _ else _;rw[if_pos hj]
  ·have e:ρ j=σ.aa.length+(j-aj.length):=by show bE _ _ _=_;simp only[bE];rw[if_neg hj]
   have e2:aj.length+(j-aj.length)=j:=Ey;refine⟨?_,λhg=>?_⟩
   ·rw[e];show(fF σ.aa aj new)[_]?=_;rw[SK aj σ.aa new ak,e2];simp[new,ho]
   ·rw[e];show(if σ.aa.length+(j-aj.length)<σ.aa.length then _ else aC.blk (aj.length+(σ.aa.length+(j-aj.length)-σ.aa.length)))=_;rw[if_neg Ey];congr 1;omega
 have SX:∀ b,S b->¬ γ.Z b:=by
  rintro b⟨_,id,o,cap,_,hl,hb⟩;exact h.nz b ⟨id,o,cap,hl,hb⟩
 have C7:∀ b,pO b7 γc.blk b->∃ i∈aj,∃ o cap,Live σ.aa i/\γ.blk i=some (b,o,cap):=by
  rintro b⟨j,o,c,hl,hb⟩;obtain⟨h1,h2⟩:=xp j hl;have e1:γc.blk j=γ.blk (aj.getD j 0):=by show(if j<aj.length then _ else _)=_;rw[if_pos h2]
  exact⟨_,aF h2,o,c,h1,e1▸hb⟩
 have LK:∀ i,i ∉ aj->Live σ.aa i->∀ b o c,γ.blk i=some (b,o,c)->aC.w.heap[b]?=γ.w.heap[b]?:=by
  intro i hi hl b o c hb;refine fS.eA b (yC hl hb) (λho=>?_);obtain⟨i',au,o',c',kx,ba⟩:=C7 b ho;have:=h.inj _ _ b o c o' c' hl kx hb ba;exact hi (this▸au)
 have LL:∀ v cv,aw σ.aa γ.w γ.Z γ.blk v cv->aw qN jR.w jR.Z jR.blk v cv:=by
  intro v cv hv;refine hv.mono (λb hb=>⟨⟨fS.z0 b (jQ b hb),λhs=>SX b hs hb⟩,?_⟩) (λi o ho=>?_)
  ·refine fS.eA b (h.gV b hb) (λho=>?_);obtain⟨i',_,o',c',kx,ba⟩:=C7 b ho;exact h.nz b ⟨i',o',c',kx,ba⟩ hb
  ·have hi:=(aY.1 ho).1;have gG:jR.blk i=γ.blk i:=by show(if i<σ.aa.length then _ else _)=_;rw[if_pos hi]
   by_cases o5:i∈aj
   ·obtain⟨j,hj,rfl⟩:=HH o5;have nK:j<dm.length:=Ey;have Bf:qN[aj.getD j 0]?=some (bO ρ dm[j]):=by
     show(fF σ.aa aj new)[aj.getD j 0]?=_;rw[HE aj σ.aa new ak bG jE j hj];simp[new,nK]
    by_cases hg:dm[j]=.gone
    ·left;rw[Bf,hg];rfl
    ·right;refine⟨gG,_,Bf,?_⟩;obtain⟨_,x,x',hx,cf,gH⟩:=fS.eK j Ey ⟨dm[j],by simp[nK],hg⟩;have e1:dm[j]=x':=by simpa [nK] using cf
     have e2:=te j x hx;rw[ho]at e2;simp at e2;rw[e1,e2];exact Ob.afO gH
   ·have Bf:qN[i]?=some o:=by
     show(fF σ.aa aj new)[i]?=_;rw[HF aj σ.aa new ak i o5 hi];exact ho
    by_cases hg:o=.gone
    ·subst hg;exact .inl Bf
    ·exact .inr ⟨gG,o,Bf,Ob.jS hg⟩
 have HI:∀ v cv,aw dm aC.w aC.Z aC.blk v cv->(snap=true->flat v=true)->aw qN jR.w jR.Z jR.blk (br ρ v) cv:=by
  intro v cv hv jg;by_cases eX:snap=true
  ·exact(hv.afN (Z':=jR.Z) (jg eX)).up (λb hb=>hb) oZ
  ·exact hv.up (λb hb=>⟨hb,λhs=>eX hs.1⟩) oZ
 have tg:∀ i,Live qN i->(i<σ.aa.length/\i ∉ aj/\Live σ.aa i/\jR.blk i=γ.blk i)\/∃ j,Live dm j/\i=ρ j/\jR.blk i=aC.blk j:=by
  rintro i⟨o,ho,hg⟩;have hlen:=(aY.1 ho).1;have C5:qN.length=σ.aa.length+(new.length-aj.length):=Lw aj σ.aa new ak;have HJ:new.length=dm.length:=by simp[new]
  rcases dT i σ.aa.length with hi|hi
  ·by_cases o5:i∈aj
   ·right;obtain⟨j,hj,rfl⟩:=HH o5;have nK:j<dm.length:=Ey;have e:ρ j=aj.getD j 0:=by show bE _ _ _=_;simp only[bE];rw[if_pos hj]
    have hx:=oZ j dm[j] (by simp[nK]);rw[e]at hx;rw[ho]at hx;simp only[cH.injEq]at hx;have uy:dm[j]≠.gone:=by intro h0;apply hg;rw[hx.1,h0];rfl
    exact⟨j,⟨_,by simp[nK],uy⟩,e.symm,hx.2 uy⟩
   ·left;have:qN[i]?=σ.aa[i]?:=HF aj σ.aa new ak i o5 hi;rw[this]at ho;exact⟨hi,o5,⟨o,ho,hg⟩,by show(if i<σ.aa.length then _ else _)=_;rw[if_pos hi]⟩
  ·right;have nK:aj.length+(i-σ.aa.length)<dm.length:=Ey;have e:ρ (aj.length+(i-σ.aa.length))=i:=by
    show bE _ _ _=_;simp only[bE];rw[if_neg Ey];omega
   have hx:=oZ _ _ (show dm[aj.length+(i-σ.aa.length)]?=some dm[aj.length+(i-σ.aa.length)] by simp[nK]);rw[e]at hx;rw[ho]at hx;simp only[cH.injEq]at hx;have uy:dm[aj.length+(i-σ.aa.length)]≠.gone:=by intro h0;apply hg;rw[hx.1,h0];rfl
   exact⟨_,⟨_,by simp[nK],uy⟩,e.symm,hx.2 uy⟩
 have LM:∀ j b o c,Live dm j->aC.blk j=some (b,o,c)->(∃ i∈aj,∃ o cap,Live σ.aa i/\γ.blk i=some (b,o,cap))\/γ.w.heap.size<=b:=by
  intro j b o c hl hb;rcases fS.own b ⟨j,o,c,hl,hb⟩ with h1|h1
  ·exact .inl (C7 b h1)
  ·exact .inr h1
 have afT:bz ⟨σ.env,qN⟩ jR:=by
  refine⟨λk=>LL _ _ (h.ar k),?_,?_,?_,?_,λg=>LL _ _ (h.gl g)⟩
  ·intro i o ho;by_cases bL:o=.gone
   ·subst bL;trivial
   rcases tg i ⟨o,ho,bL⟩ with⟨hi,o5,hl,gG⟩|⟨j,⟨x,hx,fi⟩,rfl,gG⟩
   ·have he:qN[i]?=σ.aa[i]?:=HF aj σ.aa new ak i o5 hi;have cz:σ.aa[i]?=some o:=by rw[<- he];exact ho
    exact(h.ec i o cz).mono LL gG (λb o c hb=>LK i o5 hl b o c hb)
   ·have Bg:=(oZ j x hx).1;have e:o=bO ρ x:=by
     have:qN[ρ j]?=some o:=ho;rw[Bg]at this;simpa using this.symm
    subst e;have bS:=je.ec j x hx;have jg:snap=true->CW x:=λhs=>(SV hs).2 x (hZ hx);cases x with
    |gone=>trivial
    |var cells =>
     obtain⟨b,cap,cur,t,h1,h2,h3,h4⟩:=bS;refine⟨b,cap,cur,t,gG.trans h1,h2,by simpa using h3,λc v hv=>?_⟩;simp only[bM,wT]at hv;obtain⟨y,hy,rfl⟩:=hv;exact HI _ _ (h4 c y hy) (λhs=>jg hs y (hZ hy))
    |mp ag L =>
     obtain⟨b,f,h1,h2,h3,h4⟩:=bS;refine⟨b,f,gG.trans h1,?_,λp hp=>?_,λj p hp=>?_⟩
     ·rw[LI,gD];exact h2
     ·obtain⟨y,hy,rfl⟩:=bY.1 hp;exact h3 y hy
     ·simp only[bM,wT]at hp;obtain⟨y,hy,rfl⟩:=hp;exact HI _ _ (h4 j y hy) (λhs=>jg hs y (hZ hy))
    |arr sz rows =>
     obtain⟨h0,hr,bS⟩:=bS;refine⟨h0,?_,?_⟩
     ·intro row bK;simp only[bY]at bK;obtain⟨y,hy,rfl⟩:=bK;simpa using hr y hy
     ·rcases bS with⟨h1,h2⟩|⟨b,o,cap,cur,t,h1,h2,h3,h4,h5,h6⟩
      ·exact .inl ⟨gG.trans h1,by simpa using h2⟩
      ·refine .inr ⟨b,o,cap,cur,t,gG.trans h1,h2,h3,by simpa using h4,h5,λr c v hv=>?_⟩;simp only[cellAt,bM]at hv;cases eV:rows[r]? with
       |none=>simp[eV]at hv
       |some row =>
        simp only[eV,fc,Option.bind_some,bM,wT]at hv;obtain⟨y,hy,rfl⟩:=hv;exact HI _ _ (h6 r c y (by simp[cellAt,eV,hy])) (λhs=>jg hs row (hZ eV) y (hZ hy))
  ·intro i j b o c o' c' hi hj eW iO;rcases tg i hi with⟨iW,o5,mC,gG⟩|⟨ji,iX,rfl,gG⟩<;>rcases tg j hj with⟨iw,ES,uz,ET⟩|⟨jj,SY,rfl,ET⟩
   ·exact h.inj i j b o c o' c' mC uz (gG▸eW) (ET▸iO)
   ·rw[gG]at eW;rw[ET]at iO;rcases LM jj b o' c' SY iO with⟨i',au,o1,c1,kx,ba⟩|iy
    ·exact absurd (h.inj i i' b o c o1 c1 mC kx eW ba) (λe=>o5 (e▸au))
    ·have:=yC mC eW;omega
   ·rw[gG]at eW;rw[ET]at iO;rcases LM ji b o c iX eW with⟨i',au,o1,c1,kx,ba⟩|iy
    ·exact absurd (h.inj j i' b o' c' o1 c1 uz kx iO ba) (λe=>ES (e▸au))
    ·have:=yC uz iO;omega
   ·rw[gG]at eW;rw[ET]at iO;rw[je.inj ji jj b o c o' c' iX SY eW iO]
  ·rintro b ⟨i,o,c,hi,hb⟩ ⟨hz,zL⟩;rcases tg i hi with⟨iW,o5,mC,gG⟩|⟨ji,iX,rfl,gG⟩
   ·rw[gG]at hb;rcases fS.z1 b hz with(h1|h1)|h1|h1
    ·exact h.nz b ⟨i,o,c,mC,hb⟩ h1
    ·exact zL h1
    ·obtain⟨i',au,o1,c1,kx,ba⟩:=C7 b h1;exact o5 ((h.inj i i' b o c o1 c1 mC kx hb ba)▸au)
    ·have:=yC mC hb;have LN:γ.w.heap.size<=b:=h1;omega
   ·rw[gG]at hb;exact je.nz b ⟨ji,o,c,iX,hb⟩ hz
  ·rintro b ⟨hz,_⟩;exact je.gV b hz
 refine⟨cv,br ρ res,⟨σ.env,qN⟩,jR,rfl,rfl,rfl,afT,?_,?_,hK,rfl⟩
 ·refine⟨fS.lS,fS.tape,fS.output,fS.size,?_,?_,?_,?_,?_,?_,fS.drawn⟩
  ·intro b hb iz;refine fS.eA b hb (λho=>iz ?_);obtain⟨i',_,o1,c1,kx,ba⟩:=C7 b ho;exact⟨i',o1,c1,kx,ba⟩
  ·intro b hb;exact⟨fS.z0 b (jQ b hb),λhs=>SX b hs hb⟩
  ·rintro b ⟨hz,zL⟩;rcases fS.z1 b hz with(h1|h1)|h1|h1
   ·exact .inl h1
   ·exact absurd h1 zL
   ·obtain⟨i',_,o1,c1,kx,ba⟩:=C7 b h1;exact .inr (.inl ⟨i',o1,c1,kx,ba⟩)
   ·exact .inr (.inr h1)
  ·rintro b ⟨i,o,c,hi,hb⟩;rcases tg i hi with⟨iW,o5,mC,gG⟩|⟨ji,iX,rfl,gG⟩
   ·rw[gG]at hb;exact .inl ⟨i,o,c,mC,hb⟩
   ·rw[gG]at hb;rcases LM ji b o c iX hb with⟨i',_,o1,c1,kx,ba⟩|iy
    ·exact .inl ⟨i',o1,c1,kx,ba⟩
    ·exact .inr iy
  ·show σ.aa.length<=(fF σ.aa aj new).length;rw[Lw aj σ.aa new ak];omega
  ·rintro i hi ⟨o,ho,hg⟩;refine⟨by show(if i<σ.aa.length then _ else _)=_;rw[if_pos hi],?_⟩;by_cases o5:i∈aj
   ·obtain⟨j,hj,rfl⟩:=HH o5;have nK:j<dm.length:=Ey;have Bf:qN[aj.getD j 0]?=some (bO ρ dm[j]):=by
     show(fF σ.aa aj new)[aj.getD j 0]?=_;rw[HE aj σ.aa new ak bG jE j hj];simp[new,nK]
    have dx:qN[aj.getD j 0]?=some o:=ho;rw[Bf]at dx;simp only[cH.injEq]at dx;have uy:dm[j]≠.gone:=by intro h0;apply hg;rw[<- dx,h0];rfl
    obtain⟨_,x,x',hx,cf,gH⟩:=fS.eK j Ey ⟨dm[j],by simp[nK],uy⟩;have e1:dm[j]=x':=by simpa [nK] using cf
    refine⟨bO ρ x,o,te j x hx,ho,?_⟩;rw[<- dx,e1];cases x<;>cases x'<;>simp_all [Ob.ew,bO]
   ·have he:qN[i]?=σ.aa[i]?:=HF aj σ.aa new ak i o5 hi;have cz:σ.aa[i]?=some o:=by rw[<- he];exact ho
    exact⟨o,o,cz,ho,Ob.jS hg⟩
 ·have:=je.ar 0;rw[K8]at this;exact HI res cv (by simpa using this) (λhs=>(SV hs).1)
def Holds.r{f:FuncId}{args:List AV}{aa:List Ob}{res:AV}{bh:List Ob}(h:Holds P f args aa res bh):dv P f args aa (λr os=>r=res/\os=bh) :=
 ⟨h.1,λγ aO hs=>(h.2 γ aO hs).mono λ_ _ ⟨cv,aC,h1,h2,h3,h4,h5⟩=>⟨res,bh,cv,aC,⟨rfl,rfl⟩,h1,h2,h3,h4,h5⟩⟩
def HG.r{f:FuncId}{args:List AV}{σ:St}{K:AV->St->Prop}(h:HG P f args σ K):LD P f args σ K:=by
 obtain⟨aj,snap,dO,b7,res,dm,h1,⟨h2,h3,h4,h5,h6,h7⟩,h8⟩:=h;exact⟨aj,snap,dO,b7,_,h1.r,⟨h2,h3,h4,h5,h6⟩,λr os ⟨e1,e2⟩=>by subst e1;subst e2;exact⟨h7,h8⟩⟩
def SZ{σ:St}{γ:Cx}(h:bz σ γ){f:FuncId}{args:List AV}{argv:Array Value}(aO:argv.size=args.length)(LF:∀ (j:Nat) d,args[j]?=some d->aw σ.aa γ.w γ.Z γ.blk d (argv.getD j Go.undef)){K:AV->St->Prop}(hc:HG P f args σ K):
  Calls P f argv γ.w (λe w'=>∃ cv v σ' aC,e=.returned cv/\aC.w=w'/\aC.tmps=γ.tmps/\bz σ' aC/\Fr σ.aa γ σ'.aa aC/\aw σ'.aa aC.w aC.Z aC.blk v cv/\K v σ'/\σ'.env=σ.env) :=
 SU h aO LF hc.r
end Go.Am
namespace Go.Am
variable {P:Program}
def bz.select{σ:St}{γ:Cx}(h:bz σ γ)(aj:List Nat)(snap:Bool)(b7:List Ob)(bG:aj.Nodup)(bI:b7.length=aj.length)(te:∀ (j:Nat) o,b7[j]?=some o->o=.gone\/σ.aa[aj.getD j 0]?=some (bO (bE σ.aa.length aj) o))(jE:∀ i∈aj,i<σ.aa.length)(e:Nat->AV)(tm:Array Value)(he:∀ k,e k=.undef\/∃ d,a7 σ (λid=>∃ j,j<aj.length/\aj.getD j 0=id/\b7[j]?≠some .gone) (bE σ.aa.length aj) snap (e k) d/\aw σ.aa γ.w γ.Z γ.blk d (tm.getD k Go.undef)):
  ∃ aC,aC.w=γ.w/\aC.tmps=tm/\bz ⟨e,b7⟩ aC/\((∀ i,i<b7.length->aC.blk i=γ.blk (aj.getD i 0))/\(∀ b,γ.Z b->aC.Z b)/\(∀ b,aC.Z b->γ.Z b\/pO σ.aa γ.blk b) /\
   ∀ i,Live b7 i->Live σ.aa (aj.getD i 0)/\∃ o,b7[i]?=some o/\σ.aa[aj.getD i 0]?=some (bO (bE σ.aa.length aj) o)):=by
 let ρ:=bE σ.aa.length aj
 let kp:Nat->Prop:=λid=>∃ j,j<aj.length/\aj.getD j 0=id/\b7[j]?≠some .gone
 let S:Nat->Prop:=λb=>snap=true/\∃ id o cap,¬ kp id/\Live σ.aa id/\γ.blk id=some (b,o,cap)
 let γc:Cx:={ w:=γ.w,tmps:=tm,Z:=λb=>γ.Z b\/S b,blk:=λj=>if j<aj.length then γ.blk (aj.getD j 0) else none }
 have yB:∀ j x,σ.aa[ρ j]?=some x->∃ o,b7[j]?=some o/\(o=.gone\/(x=bO ρ o/\γc.blk j=γ.blk (ρ j))):=by
  intro j x hx;obtain⟨hj,hr⟩:=SR jE (aY.1 hx).1;have nK:j<b7.length:=Ey;refine⟨b7[j],by simp[nK],?_⟩;rcases te j b7[j] (by simp[nK]) with hg|this
  ·exact .inl hg
  ·right;refine⟨?_,?_⟩
   ·have cf:σ.aa[bE σ.aa.length aj j]?=some x:=hx;rw[hr,this]at cf;simpa using cf.symm
   ·show(if j<aj.length then γ.blk (aj.getD j 0) else none)=γ.blk (bE σ.aa.length aj j);rw[if_pos hj,hr]
 have jQ:∀ b,γ.Z b->γc.Z b:=λb hb=>.inl hb;have xp:∀ j,Live b7 j->Live σ.aa (aj.getD j 0)/\j<aj.length/\kp (aj.getD j 0)/\∃ o,b7[j]?=some o/\σ.aa[aj.getD j 0]?=some (bO ρ o):=by
  rintro j⟨o,ho,hg⟩;have hj:=(aY.1 ho).1;rcases te j o ho with h'|h'
  ·exact absurd h' hg
  ·exact⟨⟨_,h',λe=>hg (EO.1 e)⟩,Ey,⟨j,Ey,rfl,by rw[ho];simpa using hg⟩,o,ho,h'⟩
 have th:∀ j,j<aj.length->γc.blk j=γ.blk (aj.getD j 0):=λj hj=>by show(if j<aj.length then _ else _)=_;rw[if_pos hj]
 have LH:bz ⟨e,b7⟩ γc:=by
  refine⟨λk=>?_,?_,?_,?_,?_,λg=>zK (h.gl g) λb hb=>⟨jQ b hb,rfl⟩⟩
  ·rcases he k with h0|⟨d,hd,hr⟩
   ·show aw b7 γc.w γc.Z γc.blk (e k) _;rw[h0];exact .undef _
   ·exact hd.rel h jQ rfl (λhs id b o cap bZ hl hb=>.inr ⟨hs,id,o,cap,bZ,hl,hb⟩) yB _ hr
  ·intro j o ho;by_cases bL:o=.gone
   ·subst bL;trivial
   obtain⟨_,ES,_,o',cz,afU⟩:=xp j ⟨o,ho,bL⟩;have:o=o':=by
    have h1:b7[j]?=some o:=ho;rw[cz]at h1;simpa using h1.symm
   subst this;have bS:=h.ec _ _ afU;have hb:=th j ES;cases o with
   |gone=>trivial
   |var cells =>
    obtain⟨b,cap,cur,t,h1,h2,h3,h4⟩:=bS;exact⟨b,cap,cur,t,hb.trans h1,h2,by simpa using h3,λc v hv=>(h4 c (br ρ v) (by simp only[bM,hv];rfl)).down jQ yB v rfl⟩
   |mp ag L =>
    obtain⟨b,f,h1,h2,h3,h4⟩:=bS;refine⟨b,f,hb.trans h1,?_,λp hp=>h3 (p.1,br ρ p.2) (Ew (f:=λp:List Int×AV=>(p.1,br ρ p.2)) hp),λj p hp=>(h4 j (p.1,br ρ p.2) (by simp only[bM,hp];rfl)).down jQ yB p.2 rfl⟩;rw[LI,gD]at h2;exact h2
   |arr sz rows =>
    obtain⟨h0,hr,bS⟩:=bS;refine⟨h0,λrow bK=>by simpa using hr (row.map (br ρ)) (Ew bK),?_⟩;rcases bS with⟨h1,h2⟩|⟨b,o,cap,cur,t,h1,h2,h3,h4,h5,h6⟩
    ·exact .inl ⟨hb.trans h1,by simpa using h2⟩
    ·refine .inr ⟨b,o,cap,cur,t,hb.trans h1,h2,h3,by simpa using h4,h5,λr c v hv=>(h6 r c (br ρ v) ?_).down jQ yB v rfl⟩;simp only[cellAt,bM]at hv ⊢;cases eV:rows[r]? with
     |none=>simp[eV]at hv
     |some row=>simp[eV]at hv ⊢;exact⟨v,hv,rfl⟩
  ·intro i j b o c o' c' hi hj eW iO;obtain⟨h1,h2,_⟩:=xp i hi;obtain⟨h3,h4,_⟩:=xp j hj;exact SS bG h2 h4 (h.inj _ _ b o c o' c' h1 h3 (th i h2▸eW) (th j h4▸iO))
  ·rintro b ⟨i,o,c,hi,hb⟩ hz;obtain⟨h1,h2,h3,_⟩:=xp i hi;rw[th i h2]at hb;rcases hz with hz|⟨_,id,o',cap',bZ,hl,ba⟩
   ·exact h.nz b ⟨_,o,c,h1,hb⟩ hz
   ·have:=h.inj _ _ b o c o' cap' h1 hl hb ba;exact bZ (this▸h3)
  ·rintro b (hb|⟨_,id,o,cap,_,hl,hb⟩)
   ·exact h.gV b hb
   ·exact h.blt hl hb
 refine⟨γc,rfl,rfl,LH,λi hi=>th i Ey,jQ,?_,?_⟩
 ·rintro b (hb|⟨_,id,o,cap,_,hl,hb⟩)
  ·exact .inl hb
  ·exact .inr ⟨id,o,cap,hl,hb⟩
 ·intro i hi;obtain⟨h1,h2,_,h4⟩:=xp i hi;exact⟨h1,h4⟩
def Ob.afV{ρ:Nat->Nat}{x o:Ob}(h:x.ew (bO ρ o)):x.ew o:=by
 cases x<;>cases o<;>simp[Ob.ew,bO]at h ⊢<;>exact h
def Fr.select{os:List Ob}{γ0 γ aC:Cx}{σ:St}(hf:Fr os γ0 σ.aa γ){aj:List Nat}{b7:List Ob}(hn:os.length<=aj.length)(bI:b7.length=aj.length)(bZ:∀ i,i<os.length->aj.getD i 0=i)(hw:aC.w=γ.w)(h:(∀ i,i<b7.length->aC.blk i=γ.blk (aj.getD i 0))/\(∀ b,γ.Z b->aC.Z b)/\(∀ b,aC.Z b->γ.Z b\/pO σ.aa γ.blk b) /\
   ∀ i,Live b7 i->Live σ.aa (aj.getD i 0)/\∃ o,b7[i]?=some o/\σ.aa[aj.getD i 0]?=some (bO (bE σ.aa.length aj) o)):Fr os γ0 b7 aC:=by
 obtain⟨h1,h2,h3,h4⟩:=h;refine⟨by rw[hw];exact hf.lS,by rw[hw];exact hf.tape,by rw[hw];exact hf.output,by rw[hw];exact hf.size,by rw[hw];exact hf.eA,λb hb=>h2 b (hf.z0 b hb),?_,?_,Ey,?_,by rw[hw];exact hf.drawn⟩
 ·intro b hb;rcases h3 b hb with h|h
  ·exact hf.z1 b h
  ·rcases hf.own b h with h|h
   ·exact .inr (.inl h)
   ·exact .inr (.inr h)
 ·rintro b ⟨i,o,c,hi,hb⟩;have aX:=hi.lt;rw[h1 i aX]at hb;exact hf.own b ⟨_,o,c,(h4 i hi).1,hb⟩
 ·intro i hi hl;obtain⟨h5,o,ho,cz⟩:=h4 i hl;rw[bZ i hi]at h5 cz;obtain⟨h6,x,x',hx,cf,hk⟩:=hf.eK i hi h5;refine⟨by rw[h1 i hl.lt,bZ i hi];exact h6,x,o,hx,ho,?_⟩;rw[cz]at cf;simp only[cH.injEq]at cf;rw[<- cf]at hk;exact Ob.afV hk
def gp(N:Nat)(os:List Ob)(γ0:Cx)(σ:St)(a:Act)(w:World):Prop :=
 a.defers=[]/\a.tmps.size=N/\∃ γ,γ.w=w/\γ.tmps=a.tmps/\bz σ γ/\Fr os γ0 σ.aa γ
def W(P:Program)(N n0:Nat)(c:Code)(Q:Exit->St->Prop)(σ:St):Prop :=
 ∀ (os:List Ob) (γ0:Cx) (a:Act) (w:World),os.length=n0->gp N os γ0 σ a w->c.wp P (λe a' w'=>∃ σ',Q e σ'/\gp N os γ0 σ' a' w') a w
def uf(P:Program)(g:FuncId)(args:List AV)(dst:Option Tmp)(K:St->Prop)(σ:St):Prop:=HG P g args σ λv σ'=>K (σ'.put dst v)
def Hp(P:Program)(t:TypeId)(m:String):Option (FuncId×Option TypeId) :=
 match P.info? t with
 |none=>none
 |some i =>
  match i.methods.find? (·.name==m) with
  |none=>none
  |some r =>
   match r.path.isEmpty,r.func,P.underlying t with
   |true,some (g,pr),some (.pointer e)=>some (g,if pr then none else some e)
   |_,_,_=>none
def qJ(P:Program)(σ:St)(v:AV)(K:FuncId->AV->Prop):Option (FuncId×Option TypeId)->Prop
 |some (g,none)=>K g v
 |some (g,some e) =>
  (ty P e).kind≠99 /\
  match v with
  |.ptr id r c =>
   match rowOf σ id r with
   |some row=>nI (ty P e) row c λx=>K g x
   |none=>False
  |_=>False
 |none=>False
def aL(P:Program)(o:Oper)(σ:St)(K:St->Prop):Prop :=
 match o.op with
 |.call { callee:=.value f,args,.. } =>
  match ev σ f with
  |.fn g bF=>uf P g (args.toList.map (ev σ)++bF) o.dst K σ
  |_=>False
 |.call { callee:=.invoke r m,args,.. } =>
  match ev σ r with
  |.iU t v=>qJ P σ v (λg x=>uf P g (x::args.toList.map (ev σ)) o.dst K σ) (Hp P t m)
  |_=>False
 |_=>cm P o σ K
def pP(P:Program)(o:Oper)(K:St->Prop)(b want:Bool)(σ:St):Prop:=(b=want->aL P o σ K)/\(b≠want->K (σ.put o.dst (.lit (.tuple #[]))))
def opsL(P:Program)(ops:Array Oper):List Oper->(St->Prop)->St->Prop
 |[],K,σ=>K σ
 |o::r,K,σ =>
  match o.guard with
  |none=>aL P o σ (opsL P ops r K)
  |some (j,want) =>
   match (ops[j]?).bind (·.dst) with
   |none=>False
   |some d =>
    match σ.env d with
    |.lit (.bool b)=>pP P o (opsL P ops r K) b want σ
    |.lit (.tuple vs)=>vs = #[]/\opsL P ops r K (σ.put o.dst (.lit (.tuple #[])))
    |_=>False
def vK(a:Act)(d:Option Tmp)(v:Value):(a.put d v).tmps.size=a.tmps.size:=by cases d<;>simp[Act.put]
def put_defers(a:Act)(d:Option Tmp)(v:Value):(a.put d v).defers=a.defers:=by cases d<;>rfl
def afW(xt:TypeId)(a:Addr)(x y:String):Builtin.ssaWrapNilChk_ #[xt] xt #[.pointer (some a),strVal x,strVal y]=pure (.pointer (some a)):=rfl
def S1{w:World}{t:TypeId}{i:TypeInfo}(h:P.info? t=some i):(typeInfo t).run P w=.ok i w:=by
 simp[typeInfo,h]
def ext1(x:Value)(A:Array Value):(#[x]++A).extract 1 (#[x]++A).size=A:=by
 apply Array.ext';simp only[Array.toList_extract,List.extract,CM,Array.size_append];simp[List.take_of_length_le]
def afX{σ:St}{γ:Cx}(hs:bz σ γ){t:TypeId}{m:String}{v:AV}{cv:Value}(hv:aw σ.aa γ.w γ.Z γ.blk v cv){K:FuncId->AV->Prop}(h:qJ P σ v K (Hp P t m)):
  ∃ g x cx,(Go.method (P.types.size+Made.depth) t cv m).run P γ.w=.ok (g,cx) γ.w/\aw σ.aa γ.w γ.Z γ.blk x cx/\K g x:=by
 obtain⟨fu,Bh⟩:∃fu,P.types.size+Made.depth=fu+1:=Nat.exists_eq_succ_of_ne_zero (by unfold Made.depth;omega);rw[Bh];unfold Go.method;unfold Hp at h;cases hi:P.info? t with
 |none=>simp[hi,qJ]at h
 |some i =>
  simp only[hi]at h;cases hf:i.methods.find? (·.name==m) with
  |none=>simp[hf,qJ]at h
  |some r =>
   simp only[hf]at h;split at h
   ·rename_i g pr e hp hr hu;have xq:r.path = #[]:=Array.isEmpty_iff.1 hp;cases pr with
    |true =>
     simp only[if_pos,qJ]at h;refine⟨g,v,cv,?_,hv,h⟩;simp[S1 hi,hf,xq,follow,hr,receiverAt,run_underlying hu,Place.get]
    |false =>
     simp only[if_neg,Bool.false_eq_true,not_false_eq_true,qJ]at h;obtain⟨hk,h⟩:=h;cases v with
     |ptr id rr c =>
      simp only at h;cases bK:rowOf σ id rr with
      |none=>simp[bK]at h
      |some row =>
       simp only[bK]at h;obtain⟨x,cx,h1,h2,h3⟩:=LP hs hk hv bK h;refine⟨g,x,cx,?_,h2,h3⟩;obtain⟨b,base,cap,cur,tt,o,rfl,_⟩:=HK hs hv bK;simp only[Instr.loadAt,Instr.sureAddr,Sem.run_bind,Sem.run_pure,Result.andThen_ok]at h1;simp[S1 hi,hf,xq,follow,hr,receiverAt,run_underlying hu,Place.get,afW,asAddr,h1]
     |_=>exact h.elim
   ·exact h.elim
def yy{N:Nat}{os:List Ob}{γ0:Cx}{o:Oper}{σ:St}{K:St->Prop}(h:aL P o σ K){a:Act}{w:World}(az:gp N os γ0 σ a w)(hd:∀ d,o.dst=some d->d<N){Q:Exit->Act->World->Prop}{next:Act->World->Prop}(hn:∀ σ' a' w',K σ'->gp N os γ0 σ' a' w'->next a' w'):o.wp P a w next Q:=by
 obtain⟨iK,aO,γ,rfl,ha,hs,hf⟩:=az;have vQ:∀ d,o.dst=some d->d<a.tmps.size:=λd h=>by rw[aO];exact hd d h
 have afY:cm P o σ K->o.wp P a γ.w next Q:=by
  intro h;obtain⟨n,x,w',σ',aC,hr,rQ,hK,je,fS,rR,ku⟩:=afZ h hs ha vQ;unfold Oper.wp;rw[hr];have c8:gp N os γ0 σ' (a.put o.dst x) w':=⟨by rw[put_defers];exact iK,by rw[vK];exact aO,aC,rR,ku,je,hf.trans fS⟩;rcases rQ with rfl|⟨rfl,rfl⟩
  ·exact hn _ _ _ hK c8
  ·exact hn _ _ _ hK c8
 unfold aL at h;split at h
 ·rename_i f args cI cT;split at h
  ·rename_i g bF he;have eG:=uA hs ha f;rw[he]at eG;obtain⟨bq,aW,fX,qO⟩:=eG.S2;have oS:∀ (j:Nat) d,(args.toList.map (ev σ)++bF)[j]?=some d->aw σ.aa γ.w γ.Z γ.blk d (((args.map a.eval)++bq).getD j Go.undef):=by
    intro j d hj;simp only[eU];rcases dT j args.size with aX|iy
    ·rw[fe (by simpa using aX)]at hj;rw[Ha (by simpa using aX)];simp only[bM,Ex,QK]at hj ⊢;cases hx:args[j]? with
     |none=>simp[hx]at hj
     |some y=>simp[hx]at hj ⊢;subst hj;exact uA hs ha y
    ·rw[iq (by simpa using iy)]at hj;rw[Array.getElem?_append_right (by simpa using iy)];simp only[gD,Array.length_toList,Array.size_map]at hj ⊢;have:=qO _ d hj;simpa [eU] using this
   unfold uf at h;have pN:=SZ hs (argv:=(args.map a.eval)++bq) (by simp[fX]) oS h;obtain⟨aj,snap,dO,b7,res,dm,⟨⟨fn,yD,tq,zM⟩,_⟩,_⟩:=h;unfold Oper.wp;have hr:(execOp a.eval o).run P γ.w=.ok (.enter g ((args.map a.eval)++bq)) γ.w:=by
    have o8 : ¬ fn.name = "runtime.NumGoroutine" := by simpa using tq
    have pd:¬ fn.body=none:=by intro e;rw[e]at zM;simp at zM
    simp[execOp,cT,resolve,aW,Deferred.ofValue,invoke,callFunc,yD,o8,pd]
   rw[hr];show Calls P g _ _ _;refine pN.mono ?_;rintro e w'⟨cv,v,σ',aC,rfl,rfl,ku,je,fS,hv,hK,uB⟩;refine hn _ _ _ hK ⟨by rw[put_defers];exact iK,by rw[vK];exact aO,{ aC with tmps:=(a.put o.dst cv).tmps },rfl,rfl,s9 je (by rw[ku,ha]) vQ hv,?_⟩;rw[rM];exact(hf.trans fS).put _
  ·exact h.elim
 ·rename_i r m args cI cT;split at h
  ·rename_i t v he;have eG:=uA hs ha r;rw[he]at eG;obtain⟨HL,aW,qO⟩:=eG.S3;obtain⟨g,x,cx,hm,hx,h⟩:=afX hs qO h;have oS:∀ (j:Nat) d,(x::args.toList.map (ev σ))[j]?=some d->aw σ.aa γ.w γ.Z γ.blk d ((#[cx]++args.map a.eval).getD j Go.undef):=by
    intro j d hj;simp only[eU];cases j with
    |zero =>
     simp only[wZ,cH.injEq]at hj;subst hj;rw[Ha G9];simpa using hx
    |succ j =>
     simp only[vB,bM,Ex]at hj;rw[Array.getElem?_append_right G9];simp only[List.size_toArray,du,List.length_nil,Nat.zero_add,Nat.add_sub_cancel,QK];cases hy:args[j]? with
     |none=>simp[hy]at hj
     |some y=>simp[hy]at hj ⊢;subst hj;exact uA hs ha y
   unfold uf at h;have pN:=SZ hs (argv:=#[cx]++args.map a.eval) Hj oS h;obtain⟨aj,snap,dO,b7,res,dm,⟨⟨fn,yD,tq,zM⟩,_⟩,_⟩:=h;unfold Oper.wp;have hr:(execOp a.eval o).run P γ.w=.ok (.enter g (#[cx]++args.map a.eval)) γ.w:=by
    have o8 : ¬ fn.name = "runtime.NumGoroutine" := by simpa using tq
    have pd:¬ fn.body=none:=by intro e;rw[e]at zM;simp at zM
    have e0:(#[Value.iface t HL]++args.map a.eval)[0]?=some (.iface t HL):=by rw[Ha G9];simp
    have e1:=ext1 (.iface t HL) (args.map a.eval);have e2:(callMethod (.iface t HL) m (args.map a.eval)).run P γ.w=.ok (.enter g (#[cx]++args.map a.eval)) γ.w:=by
     unfold callMethod;simp only[Sem.run_bind,run_program,Result.andThen_ok,hm];simp[callFunc,yD,o8,pd]
    simp only[execOp,cT,resolve,aW,pure_bind,invoke,e0,e1];exact e2
   rw[hr];show Calls P g _ _ _;refine pN.mono ?_;rintro e w'⟨cv,v,σ',aC,rfl,rfl,ku,je,fS,hv,hK,uB⟩;refine hn _ _ _ hK ⟨by rw[put_defers];exact iK,by rw[vK];exact aO,{ aC with tmps:=(a.put o.dst cv).tmps },rfl,rfl,s9 je (by rw[ku,ha]) vQ hv,?_⟩;rw[rM];exact(hf.trans fS).put _
  ·exact h.elim
 ·exact afY h
def EU{N:Nat}{os:List Ob}{γ0:Cx}{ops:Array Oper}(hd:∀ o∈ops.toList,∀ d,o.dst=some d->d<N){K:St->Prop}{Q:Exit->Act->World->Prop}(hQ:∀ σ' a' w',K σ'->gp N os γ0 σ' a' w'->Q .normal a' w'):∀ (l:List Oper) (i:Nat) (σ:St) (a:Act) (w:World),ops.toList.drop i=l->opsL P ops l K σ->gp N os γ0 σ a w ->
   wpOps P ops Q (List.range' i l.length) a w
 |[],i,σ,a,w,_,h,az=>by simpa [wpOps] using hQ _ _ _ h az
 |o::r,i,σ,a,w,hl,h,az=>by
  have hi:ops[i]?=some o:=by
   have:(ops.toList.drop i)[0]?=some o:=by rw[hl];rfl
   simpa using this
  have hr:ops.toList.drop (i+1)=r:=by
   have:=congrArg List.tail hl;simpa [List.tail_drop] using this
  have bR:o∈ops.toList:=hZ (by simpa using hi);rw[du,List.range'_succ,wpOps_cons];unfold wpOp;simp only[hi];unfold opsL at h;cases hg:o.guard with
  |none =>
   simp only[hg]at h;have hw:Region.wanted o (yielded ops a.tmps)=true:=by simp[Region.wanted,hg]
   rw[if_pos hw];left;exact yy h az (hd o bR) (λσ' a' w' hK c8=>EU hd hQ r (i+1) σ' a' w' hr hK c8)
  |some jw =>
   obtain⟨j,want⟩:=jw;simp only[hg]at h;cases eB:(ops[j]?).bind (·.dst) with
   |none=>simp[eB]at h
   |some d =>
    simp only[eB]at h;split at h
    ·rename_i b he;obtain⟨iK,aO,γ,rfl,ha,hs,hf⟩:=az;have jO:=hs.ar d;rw[he,ha]at jO;have hv:=jO.cO;have hy:yielded ops a.tmps j=some b:=by
      unfold yielded;rw[eB];have:a.tmps[d]?=some (.bool b):=by
       rw[eU]at hv;cases hx:a.tmps[d]? with
       |none=>rw[hx]at hv;simp[Go.undef]at hv
       |some y=>rw[hx]at hv;simp at hv;rw[hv]
      simp[this]
     by_cases ig:b=want
     ·have hw:Region.wanted o (yielded ops a.tmps)=true:=by simp[Region.wanted,hg,hy,ig]
      rw[if_pos hw];left;exact yy (h.1 ig) ⟨iK,aO,γ,rfl,ha,hs,hf⟩ (hd o bR) (λσ' a' w' hK c8=>EU hd hQ r (i+1) σ' a' w' hr hK c8)
     ·have hw:Region.wanted o (yielded ops a.tmps)=false:=by simp[Region.wanted,hg,hy,ig]
      rw[if_neg (by rw[hw];simp)];refine EU hd hQ r (i+1) _ _ _ hr (h.2 ig) ⟨by rw[put_defers];exact iK,by rw[vK];exact aO,{ γ with tmps:=(a.put o.dst Go.undef).tmps },rfl,rfl,s9 hs ha (λd h=>by rw[aO];exact hd o bR d h) (.lit _),?_⟩;rw[rM];exact hf.put _
    ·rename_i vs he;obtain⟨iK,aO,γ,rfl,ha,hs,hf⟩:=az;have jO:=hs.ar d;rw[he,ha]at jO;have hv:=jO.cO;have hy:yielded ops a.tmps j=none:=by
      unfold yielded;rw[eB];rw[eU]at hv;cases hx:a.tmps[d]? with
      |none=>simp[hx]
      |some y=>rw[hx]at hv;simp at hv;subst hv;simp[hx]
     have hw:Region.wanted o (yielded ops a.tmps)=false:=by simp[Region.wanted,hg,hy]
     rw[if_neg (by rw[hw];simp)];refine EU hd hQ r (i+1) _ _ _ hr h.2 ⟨by rw[put_defers];exact iK,by rw[vK];exact aO,{ γ with tmps:=(a.put o.dst Go.undef).tmps },rfl,rfl,s9 hs ha (λd h=>by rw[aO];exact hd o bR d h) (.lit _),?_⟩;rw[rM];exact hf.put _
    ·exact h.elim
end Go.Am
namespace Go.Am
variable {P:Program} {N n0:Nat} {Q:Exit->St->Prop} {σ:St}
def S4{c:Code}{Q':Exit->St->Prop}(h:W P N n0 c Q σ)(hq:∀ e s,Q e s->Q' e s):W P N n0 c Q' σ :=
 λos γ0 a w hn az=>wp_mono (h os γ0 a w hn az) (λ_ _ _ ⟨σ',h1,h2⟩=>⟨σ',hq _ _ h1,h2⟩)
def S5(h:Q .normal σ):W P N n0 .skip Q σ:=λ_ _ _ _ _ az=>wp_skip ⟨σ,h,az⟩
def af0{l:Nat}(h:Q .normal σ):W P N n0 (.label l) Q σ:=λ_ _ _ _ _ az=>wp_label ⟨σ,h,az⟩
def af1{id:Nat}(h:Q (.exit id) σ):W P N n0 (.exit id) Q σ:=λ_ _ _ _ _ az=>wp_exit ⟨σ,h,az⟩
def af2(h:Q .ret σ):W P N n0 .ret Q σ:=λ_ _ _ _ _ az=>wp_ret ⟨σ,h,az⟩
def af3(P:Program)(N n0:Nat)(y:Code)(Q:Exit->St->Prop):Exit->St->Prop
 |.normal,s=>W P N n0 y Q s
 |e,s=>Q e s
def HA{x y:Code}(h:W P N n0 x (af3 P N n0 y Q) σ):W P N n0 (.seq x y) Q σ:=by
 intro os γ0 a w hn az;refine wp_seq (wp_mono (h os γ0 a w hn az) ?_);rintro e a' w'⟨σ',h1,h2⟩;cases e with
 |normal=>exact h1 os γ0 a' w' hn h2
 |exit id=>exact⟨σ',h1,h2⟩
 |goto l=>exact⟨σ',h1,h2⟩
 |ret=>exact⟨σ',h1,h2⟩
 |panic c=>exact⟨σ',h1,h2⟩
 |outgrown=>exact⟨σ',h1,h2⟩
def S6{c:Operand}{x y:Code}{t:Bool}(hc:ev σ c=.lit (.bool t))(ht:t=true->W P N n0 x Q σ)(hf:t=false->W P N n0 y Q σ):W P N n0 (.cond c x y) Q σ:=by
 intro os γ0 a w hn az;have aW:a.eval c=.bool t:=by
  obtain⟨_,_,γ,rfl,ha,hs,_⟩:=az;have:=uA hs ha c;rw[hc]at this;exact this.cO
 exact wp_cond_split aW (λh=>ht h os γ0 a w hn az) (λh=>hf h os γ0 a w hn az)
def HC(id:Nat)(Q:Exit->St->Prop):Exit->St->Prop
 |.exit pK,s=>if pK=id then Q .normal s else Q (.exit pK) s
 |e,s=>Q e s
def afI{id:Nat}{c:Code}(h:W P N n0 c (HC id Q) σ):W P N n0 (.block id c) Q σ:=by
 intro os γ0 a w hn az;refine wp_block (wp_mono (h os γ0 a w hn az) ?_);rintro e a' w'⟨σ',h1,h2⟩;cases e with
 |exit pK =>
  simp only[HC]at h1;simp only[Exit.inBlock];split
  ·rename_i he;rw[if_pos he]at h1;exact⟨σ',h1,h2⟩
  ·rename_i he;rw[if_neg he]at h1;exact⟨σ',h1,h2⟩
 |normal=>exact⟨σ',h1,h2⟩
 |goto l=>exact⟨σ',h1,h2⟩
 |ret=>exact⟨σ',h1,h2⟩
 |panic c=>exact⟨σ',h1,h2⟩
 |outgrown=>exact⟨σ',h1,h2⟩
def fP(N:Nat)(ops:Array Oper):Bool:=ops.toList.all λo=>match o.dst with|some d=>decide (d<N)|none=>true
def oV{ops:Array Oper}(h:fP N ops=true):∀ o∈ops.toList,∀ d,o.dst=some d->d<N:=by
 intro o ho d hd;unfold fP at h;rw[gA]at h;have:=h o ho;simp[hd]at this;exact this
def SL{id:Nat}{ops:Array Oper}(hd:fP N ops=true)(h:opsL P ops ops.toList (Q .normal) σ):W P N n0 (.region id ops false) Q σ:=by
 intro os γ0 a w _ az;refine wp_region ?_;have:=EU (P:=P) (N:=N) (os:=os) (γ0:=γ0) (ops:=ops) (oV hd) (K:=Q .normal) (Q:=λe a' w'=>∃ σ',Q e σ'/\gp N os γ0 σ' a' w') (λσ' a' w' hK c8=>⟨σ',hK,c8⟩)
  ops.toList 0 σ a w rfl h az
 rw[List.range_eq_range'];simpa using this
def gp.drawn{os:List Ob}{γ0:Cx}{a:Act}{w:World}(h:gp N os γ0 σ a w):gp N os γ0 σ a { w with drawn:=w.drawn+1 }:=by
 obtain⟨h1,h2,γ,rfl,h3,h4,h5⟩:=h;exact⟨h1,h2,{ γ with w:={ γ.w with drawn:=γ.w.drawn+1 } },rfl,h3,h4.LQ rfl,h5.LQ rfl rfl rfl rfl⟩
def aD(n0:Nat)(σ σ':St):Prop:=∀ (os:List Ob) (γ0 γ:Cx),os.length=n0->bz σ γ->Fr os γ0 σ.aa γ->∃ aC,aC.w=γ.w/\aC.tmps=γ.tmps/\bz σ' aC/\Fr os γ0 σ'.aa aC
def bP{c:Code}{σ':St}(h:aD n0 σ σ')(hw:W P N n0 c Q σ'):W P N n0 c Q σ:=by
 intro os γ0 a w hn az;obtain⟨h1,h2,γ,rfl,h3,h4,h5⟩:=az;obtain⟨aC,e1,e2,e3,e4⟩:=h os γ0 γ hn h4 h5;exact hw os γ0 a γ.w hn ⟨h1,h2,aC,e1,e2.trans h3,e3,e4⟩
def aD.forget{e:Nat->AV}(h:∀ k,e k=.undef\/e k=σ.env k):aD n0 σ ⟨e,σ.aa⟩:=by
 intro os γ0 γ _ hs hf;refine⟨γ,rfl,rfl,⟨λk=>?_,hs.ec,hs.inj,hs.nz,hs.gV,hs.gl⟩,hf⟩;rcases h k with h|h
 ·show aw _ _ _ _ (e k) _;rw[h];exact .undef _
 ·show aw _ _ _ _ (e k) _;rw[h];exact hs.ar k
def aD.select(aj:List Nat)(snap:Bool)(b7:List Ob)(e:Nat->AV)(bG:aj.Nodup)(bI:b7.length=aj.length)(te:∀ (j:Nat) o,b7[j]?=some o->o=.gone\/σ.aa[aj.getD j 0]?=some (bO (bE σ.aa.length aj) o))(jE:∀ i∈aj,i<σ.aa.length)(hn:n0<=aj.length)(bZ:∀ i,i<n0->aj.getD i 0=i)(he:∀ k,e k=.undef\/a7 σ (λid=>∃ j,j<aj.length/\aj.getD j 0=id/\b7[j]?≠some .gone) (bE σ.aa.length aj) snap (e k) (σ.env k)):aD n0 σ ⟨e,b7⟩:=by
 intro os γ0 γ C8 hs hf;obtain⟨aC,h1,h2,h3,h4⟩:=hs.select aj snap b7 bG bI te jE e γ.tmps (λk=>(he k).imp id λh=>⟨_,h,hs.ar k⟩);exact⟨aC,h1,h2,h3,hf.select Ey bI (λi hi=>bZ i Ey) h1 h4⟩
def aD.trans{σ1 σ2:St}(h:aD n0 σ σ1)(k:aD n0 σ1 σ2):aD n0 σ σ2:=by
 intro os γ0 γ C8 hs hf;obtain⟨γ1,a1,a2,a3,a4⟩:=h os γ0 γ C8 hs hf;obtain⟨EV,b1,b2,b3,b4⟩:=k os γ0 γ1 C8 a3 a4;exact⟨EV,b1.trans a1,b2.trans a2,b3,b4⟩
def aD.nil(d sz:Nat)(h:σ.env d=.lit (.slice none 0 0))(h0:0<sz):aD n0 σ ⟨jP σ.env d (.ref σ.aa.length sz 0 0),σ.aa++[.arr sz []]⟩:=by
 intro os γ0 γ _ hs hf;have hp:=hs.Bi h0;refine⟨{ γ with blk:=dq γ.blk σ.aa.length none },rfl,rfl,⟨λk=>?_,hp.ec,hp.inj,hp.nz,hp.gV,hp.gl⟩,hf.trans (Fr.Bi _ _ _)⟩;simp only[jP];by_cases hk:k=d
 ·subst hk;rw[if_pos rfl];have:=hs.ar k;rw[h]at this;rw[this.cO];exact .ng _ _ (List.getElem?_concat_length ..) (by simp[dq])
 ·rw[if_neg hk];exact hp.ar k
def dV(σ:St)(P:Program):List ResultVar->(List AV->Prop)->Prop
 |[],K=>K []
 |.tmp t::r,K=>dV σ P r λvs=>K (σ.env t::vs)
 |.cell a t::r,K =>
  (ty P t).kind≠99 /\
  match σ.env a with
  |.ptr id rr c =>
   match rowOf σ id rr with
   |some row=>nI (ty P t) row c λv=>dV σ P r λvs=>K (v::vs)
   |none=>False
  |_=>False
def dP:List AV->AV
 |[v]=>v
 |vs=>.bC vs
def HM{γ:Cx}(hs:bz σ γ):∀ (rs:List ResultVar) (K:List AV->Prop),dV σ P rs K ->
  ∃ vs bq,K vs/\(rs.mapM λ(r:ResultVar)=>match r with|.tmp t=>(pure (γ.tmps.getD t Go.undef):Sem Value)|.cell a t=>do loadVar t (← asAddr (γ.tmps.getD a Go.undef))).run P γ.w=.ok bq γ.w /\
   bq.length=vs.length/\vs.length=rs.length/\∀ (j:Nat) v,vs[j]?=some v->aw σ.aa γ.w γ.Z γ.blk v (bq.getD j Go.undef)
 |[],K,h=>⟨[],[],h,G9,rfl,rfl,G9⟩
 |.tmp t::r,K,h=>by
  obtain⟨vs,bq,h1,h2,h3,h4,h5⟩:=HM hs r _ h;refine⟨_,γ.tmps.getD t Go.undef::bq,h1,?_,by simp[h3],by simp[h4],?_⟩
  ·simp only[List.mapM_cons,Sem.run_bind,Sem.run_pure,Result.andThen_ok,h2]
  ·intro j v hj;cases j with
   |zero=>simp at hj;subst hj;simpa using hs.ar t
   |succ j=>simpa using h5 j v (by simpa using hj)
 |.cell a t::r,K,h=>by
  obtain⟨hk,h⟩:=h;split at h
  ·rename_i id rr c he;have hv:=hs.ar a;rw[he]at hv;split at h
   ·rename_i row bK;obtain⟨v,cv,l1,l2,l3⟩:=LP hs hk hv bK h;obtain⟨vs,bq,h1,h2,h3,h4,h5⟩:=HM hs r _ l3;obtain⟨b,base,cap,cur,tt,o,hp,_⟩:=HK hs hv bK;have fj:(do loadVar t (← asAddr (γ.tmps.getD a Go.undef)):Sem Value).run P γ.w=.ok cv γ.w:=by
     rw[hp]at l1 ⊢;simp only[Instr.loadAt,Instr.sureAddr,Sem.run_bind,Sem.run_pure,Result.andThen_ok]at l1;simp only[asAddr,Sem.run_bind,Sem.run_pure,Result.andThen_ok];exact l1
    refine⟨_,cv::bq,h1,?_,by simp[h3],by simp[h4],?_⟩
    ·simp only[List.mapM_cons];rw[Sem.run_bind,fj];simp only[Result.andThen_ok,Sem.run_bind,h2,Sem.run_pure]
    ·intro j x hj;cases j with
     |zero=>simp at hj;subst hj;simpa using l2
     |succ j=>simpa using h5 j x (by simpa using hj)
   ·exact h.elim
  ·exact h.elim
def oU(n0:Nat)(σ:St)(v res:AV)(bh:List Ob):Prop :=
 ∃ (aj:List Nat) (snap:Bool),aj.Nodup/\bh.length=aj.length/\(∀ (j:Nat) o,bh[j]?=some o->o=.gone\/σ.aa[aj.getD j 0]?=some (bO (bE σ.aa.length aj) o))/\(∀ i∈aj,i<σ.aa.length) /\
  n0<=aj.length/\(∀ i,i<n0->aj.getD i 0=i)/\a7 σ (λid=>∃ j,j<aj.length/\aj.getD j 0=id/\bh[j]?≠some .gone) (bE σ.aa.length aj) snap res v
def C9(P:Program)(n0:Nat)(rs:List ResultVar)(res:AV)(bh:List Ob):Exit->St->Prop
 |.normal,s=>dV s P rs λvs=>oU n0 s (dP vs) res bh
 |.ret,s=>dV s P rs λvs=>oU n0 s (dP vs) res bh
 |_,_=>False
def Holds.LS {f : FuncId} {fn : Func} {c : Code} {args : List AV} {aa : List Ob} {res : AV} {bh : List Ob} (hf : P.funcs[f]? = some fn) (hb : fn.body = some c) (tq : (fn.name == "runtime.NumGoroutine") = false)
  (hN:args.length<=fn.ntmps) (h:W P fn.ntmps aa.length c (C9 P aa.length fn.results.toList res bh) ⟨λk=>args.getD k .undef,aa⟩):Holds P f args aa res bh:=by
 refine⟨⟨fn,hf,tq,by rw[hb];rfl⟩,?_⟩;intro γ aO hs;refine calls_of_wp hf hb ?_
 let tm:=γ.tmps++Array.replicate (fn.ntmps-γ.tmps.size) Go.undef
 have az:gp fn.ntmps aa γ ⟨λk=>args.getD k .undef,aa⟩ { tmps:=tm,defers:=[] } γ.w:=by
  refine⟨rfl,by simp[tm];omega,{ γ with tmps:=tm },rfl,rfl,⟨λk=>?_,hs.ec,hs.inj,hs.nz,hs.gV,hs.gl⟩,(Fr.refl _ _).put _⟩;rcases dT k args.length with hk|hk
  ·have:=hs.ar k;have e:tm.getD k Go.undef=γ.tmps.getD k Go.undef:=by
    simp only[tm,eU];rw[Ha Ey]
   show aw _ _ _ _ _ (tm.getD k Go.undef);rw[e];exact this
  ·have e:args.getD k AV.undef=.undef:=by simp[hk]
   show aw _ _ _ _ (args.getD k .undef) _;rw[e];exact .undef _
 refine wp_mono (h aa γ _ γ.w rfl az) ?_;rintro e a' w'⟨σ',h1,iK,_,aC,rfl,ha,je,fS⟩;have fin:∀ (K:List AV->Prop),dV σ' P fn.results.toList K->(∀ vs,K vs->oU aa.length σ' (dP vs) res bh) ->
   a'.defers=[]/\∃ v,(results fn a'.tmps).run P aC.w=.ok v aC.w/\∃ cv jR,Ending.returned v=.returned cv/\jR.w=aC.w/\jR.tmps = #[cv]/\bz ⟨λk=>[res].getD k .undef,bh⟩ jR/\Fr aa γ bh jR:=by
  intro K hK LU;obtain⟨vs,bq,k1,k2,k3,k4,k5⟩:=HM je _ _ hK;obtain⟨aj,snap,r1,r2,r3,r4,r5,r6,r7⟩:=LU vs k1;refine⟨iK,?_⟩;have fj :∃v,(results fn a'.tmps).run P aC.w=.ok v aC.w/\aw σ'.aa aC.w aC.Z aC.blk (dP vs) v:=by
   have hm:(fn.results.mapM λ(r:ResultVar)=>match r with|.tmp t=>(pure (a'.tmps.getD t Go.undef):Sem Value)|.cell a t=>do loadVar t (← asAddr (a'.tmps.getD a Go.undef))).run P aC.w=.ok bq.toArray aC.w:=by
    rw[Array.mapM_eq_mapM_toList,Sem.run_map,<- ha,k2];rfl
   have hr:(results fn a'.tmps).run P aC.w=.ok (if h:bq.toArray.size=1 then bq.toArray[0] else .tuple bq.toArray) aC.w:=by
    unfold results;rw[Sem.run_bind];exact congrArg (λr=>Result.andThen r λ(a:Array Value) w'=>(pure (if h:a.size=1 then a[0] else Value.tuple a):Sem Value).run P w') hm
   rw[hr]
   match vs,bq,k3,k5 with
   |[],[],_,k5=>exact⟨_,rfl,.bC _ _ rfl (λj x hj=>by simp at hj)⟩
   |[v],[cv],_,k5=>exact⟨cv,G9,by simpa [dP] using k5 0 v rfl⟩
   |v::v'::vs,cv::qP::bq,k3,k5 =>
    refine⟨.tuple (cv::qP::bq).toArray,G9,.bC _ _ (by simpa using k3) (λj x hj=>?_)⟩;have:=k5 j x hj;simpa [ay,eU] using this
  obtain⟨v,pf,zN⟩:=fj;obtain⟨jR,e1,e2,e3,e4⟩:=je.select aj snap bh r1 r2 r3 r4 (λk=>[res].getD k .undef) #[v] (λk=>by
   cases k with
   |zero=>exact .inr ⟨_,r7,by simpa using zN⟩
   |succ k=>left;simp)
  exact⟨v,pf,v,jR,rfl,e1,e2,e3,fS.select r5 r2 r6 e1 e4⟩
 cases e with
 |normal=>exact fin _ h1 (λ_ h=>h)
 |ret=>exact fin _ h1 (λ_ h=>h)
 |exit id=>exact h1.elim
 |goto l=>exact h1.elim
 |panic c=>exact h1.elim
 |outgrown=>exact h1.elim
theorem Holds.aM {f:FuncId} {fn:Func} {c:Code} {args:List AV} {aa:List Ob} {res:AV} {bh:List Ob} (N k:Nat) (rs:List ResultVar) (hf:P.funcs[f]?=some fn) (h:W P N k c (C9 P k rs res bh) ⟨fun k=>args.getD k .undef,aa⟩) (hb:fn.body=some c:=by rfl) (tq:(fn.name=="runtime.NumGoroutine")=false:=by rfl) (hN:fn.ntmps=N:=by rfl) (xr:fn.results.toList=rs:=by rfl) (hk:aa.length=k:=by rfl) (hl:args.length<=N:=by simp):Holds P f args aa res bh:=by
 subst hN;subst xr;subst hk;exact Holds.LS hf hb tq hl h
def W_k{x y:Code}(h:∀ Q':Exit->St->Prop,(∀ s,W P N n0 y Q s->Q' .normal s)->(∀ e s,e≠.normal->Q e s->Q' e s)->W P N n0 x Q' σ):W P N n0 (.seq x y) Q σ :=
 HA (h _ (λ_ h=>h) (λe s he hq=>by cases e<;>first|exact absurd rfl he|exact hq))
def LV{id:Nat}{ops:Array Oper}{y:Code}(hd:fP N ops=true)(h:∀ K:St->Prop,(∀ s,W P N n0 y Q s->K s)->opsL P ops ops.toList K σ):W P N n0 (.seq (.region id ops false) y) Q σ :=
 HA (SL hd (h _ (λ_ h=>h)))
def R8{ops:Array Oper}{K:St->Prop}:opsL P ops [] K σ=K σ:=rfl
def R9{ops:Array Oper}{o:Oper}{r:List Oper}{K:St->Prop}:opsL P ops (o::r) K σ =
  match o.guard with
  |none=>aL P o σ (opsL P ops r K)
  |some (j,want) =>
   match (ops[j]?).bind (·.dst) with
   |none=>False
   |some d =>
    match σ.env d with
    |.lit (.bool b)=>pP P o (opsL P ops r K) b want σ
    |.lit (.tuple vs)=>vs = #[]/\opsL P ops r K (σ.put o.dst (.lit (.tuple #[])))
    |_=>False:=rfl
def Sb{o:Oper}{K:St->Prop}:pP P o K true true σ=aL P o σ K:=by simp[pP]
def Sf{o:Oper}{K:St->Prop}:pP P o K false false σ=aL P o σ K:=by simp[pP]
def Sd{o:Oper}{K:St->Prop}:pP P o K true false σ=K (σ.put o.dst (.lit (.tuple #[]))):=by simp[pP]
def Se{o:Oper}{K:St->Prop}:pP P o K false true σ=K (σ.put o.dst (.lit (.tuple #[]))):=by simp[pP]
def af5{o:Oper}{K:St->Prop}{b want:Bool}(h1:b=true->pP P o K true want σ)(h2:b=false->pP P o K false want σ):pP P o K b want σ:=by
 cases b
 ·exact h2 rfl
 ·exact h1 rfl
def clr(ds:List Nat)(e:Nat->AV):Nat->AV:=λk=>if ds.contains k then .undef else e k
def Ht{ds:List Nat}{e:Nat->AV}{k:Nat}:clr ds e k=if ds.contains k then .undef else e k:=rfl
def af7(e:Nat->AV)(d:Nat)(v:AV):jP e d v d=v:=by simp[jP]
mutual
def lr:AV->Bool
 |.ref ..=>false
 |.ptr ..=>false
 |.agg cs=>mZ cs
 |.bC cs=>mZ cs
 |.fn _ cs=>mZ cs
 |.iU _ v=>lr v
 |.dD _=>false
 |_=>true
def mZ:List AV->Bool
 |[]=>true
 |v::vs=>lr v&&mZ vs
end
mutual
def A8(ρ:Nat->Nat):∀ (v:AV),lr v=true->br ρ v=v
 |.undef,_=>rfl
 |.lit _,_=>rfl
 |.tree ..,_=>rfl
 |.b6 _,_=>rfl
 |.ref ..,h=>by simp[lr]at h
 |.ptr ..,h=>by simp[lr]at h
 |.agg cs,h=>by simp only[lr]at h;simp only[br];rw[C4 ρ cs h]
 |.bC cs,h=>by simp only[lr]at h;simp only[br];rw[C4 ρ cs h]
 |.fn f cs,h=>by simp only[lr]at h;simp only[br];rw[C4 ρ cs h]
 |.iU t v,h=>by simp only[lr]at h;simp only[br];rw[A8 ρ v h]
 |.dD _,h=>by simp[lr]at h
def C4(ρ:Nat->Nat):∀ (l:List AV),mZ l=true->pL ρ l=l
 |[],_=>rfl
 |v::vs,h=>by
  simp only[mZ,bc]at h;simp only[pL];rw[A8 ρ v h.1,C4 ρ vs h.2]
end
def af8{l:List AV}(h:mZ l=true){j:Nat}{x:AV}(hx:l[j]?=some x):lr x=true:=by
 induction l generalizing j with
 |nil=>simp at hx
 |cons v l ih =>
  simp only[mZ,bc]at h;cases j with
  |zero=>simp at hx;subst hx;exact h.1
  |succ j=>exact ih h.2 (by simpa using hx)
def cg{f:FuncId}{args:List AV}{dst:Option Tmp}{K:St->Prop}{res:AV}(h:Holds P f args [] res [])(ha:mZ args=true)(hr:lr res=true)(hK:K (σ.put dst res)):uf P f args dst K σ:=by
 refine⟨[],false,args,[],res,[],h,⟨Hd,rfl,G9,rfl,?_,G9⟩,?_⟩
 ·intro j c d hc hd;rw[hc]at hd;simp at hd;subst hd;have:=a7.same (σ:=σ) (kp:=(·∈([]:List Nat))) (ρ:=bE σ.aa.length []) (snap:=false) c;rw[A8 _ c (af8 ha hc)]at this;exact this
 ·rw[A8 _ _ hr];simpa [fF] using hK
def Ly{v:AV}(hr:lr v=true):oU 0 σ v v []:=by
 refine⟨[],false,Hd,rfl,G9,G9,aZ _,G9,?_⟩;have:=a7.same (σ:=σ) (kp:=λid=>∃ j,j<([]:List Nat).length/\([]:List Nat).getD j 0=id/\([]:List Ob)[j]?≠some .gone) (ρ:=bE σ.aa.length []) (snap:=false) v;rw[A8 _ _ hr]at this;exact this
end Go.Am
namespace Go.Am
variable {P:Program}
def cls:Op->Nat
 |.move _|.assign _|.pick ..|.convert ..|.binOp ..|.unOp ..|.makeFunc ..|.makeInterface ..|.typeAssert ..|.field ..|.extract ..|.build ..|.index ..=>0
 |.call { callee:=.builtin .min,.. }|.call { callee:=.builtin .max,.. }=>0
 |.nilCheck _|.fieldAddr ..|.indexAddr ..|.slice ..=>1
 |.call { callee:=.builtin .len,.. }=>1
 |.load ..|.lookup ..=>2
 |.alloc _|.box ..|.makeSlice ..|.buildSlice ..|.makeMap ..=>3
 |.store ..=>4
 |_=>5
def vM:Ob->Ob->Prop
 |.var _,.var _=>True
 |.arr s _,.arr s' _=>s=s'
 |.mp a L,.mp b M=>a=b/\L=M
 |.gone,.gone=>True
 |_,_=>False
def zH(o:Ob):vM o o:=by cases o<;>simp[vM]
def ly(c:Nat)(a b:List Ob):Prop :=
 if c<=2 then b=a
 else if c=3 then ∀ (id:Nat),id<a.length->b[id]?=a[id]?
 else if c=4 then b.length=a.length/\∀ (id:Nat) o o',a[id]?=some o->b[id]?=some o'->vM o o'
 else True
def af9(c:Nat)(h:c<=2)(a:List Ob):ly c a a:=by simp[ly,h]
def HN(a:List Ob)(o:Ob):ly 3 a (a++[o]):=by
 simp only[ly];intro id h;exact fe h
def af'(σ:St)(id r:Nat)(row:List AV):ly 4 σ.aa (pG σ id r row).aa:=by
 simp only[ly];rw[if_neg Hg,if_neg Hg,if_pos trivial];have key:∀ (x y:Ob),σ.aa[id]?=some x->vM x y->(σ.aa.set id y).length=σ.aa.length/\∀ (i:Nat) o o',σ.aa[i]?=some o->(σ.aa.set id y)[i]?=some o'->vM o o':=by
  intro x y hx rS;refine⟨G9,λi o o' ho cz=>?_⟩;rw[List.getElem?_set]at cz;split at cz
  ·rename_i e;subst e;split at cz
   ·simp at cz;subst cz;rw[hx]at ho;simp at ho;subst ho;exact rS
   ·simp at cz
  ·rw[ho]at cz;simp at cz;subst cz;exact zH o
 unfold pG;split
 ·rename_i cells h;exact key _ _ h trivial
 ·rename_i sz rows h;exact key _ _ h rfl
 ·exact⟨rfl,λi o o' ho cz=>by rw[ho]at cz;simp at cz;subst cz;exact zH o⟩
def pQ:AV->Option Nat
 |.ref id _ _ _=>some id
 |.ptr id _ _=>some id
 |.dD id=>some id
 |_=>none
def iM(c:Nat)(a b:Option Ob):Prop :=
 if c=0 then True else if c=1 then ∀ o,a=some o->∃ o',b=some o'/\vM o o' else ∀ o,a=some o->b=some o
def rT(c:Nat)(l:List Operand)(σ:St)(e2:Nat->AV)(ob:List Ob):Prop :=
 (∀ x∈l,ev ⟨e2,ob⟩ x=ev σ x)/\(∀ x∈l,∀ id,pQ (ev σ x)=some id->iM c σ.aa[id]? ob[id]?)
def LW(P:Program)(o:Oper)(σ:St)(K:St->Prop)(c:Nat)(l:List Operand):Prop :=
 ∃ v os,ly c σ.aa os/\K ((⟨σ.env,os⟩:St).put o.dst v)/\∀ e2 ob os2 (K2:St->Prop),rT c l σ e2 ob->(if c<=2 then os2=ob else ob=σ.aa/\os2=os)->K2 ((⟨e2,os2⟩:St).put o.dst v)->cm P o ⟨e2,ob⟩ K2
theorem dA{o:Oper}{σ:St}{K:St->Prop}{c:Nat}{l:List Operand}{v:AV}(hW:K (σ.put o.dst v))(h:∀ e2 ob (K2:St->Prop),rT c l σ e2 ob->K2 ((⟨e2,ob⟩:St).put o.dst v)->cm P o ⟨e2,ob⟩ K2)(hc:c<=2:=by simp[cls]):LW P o σ K c l :=
 ⟨v,σ.aa,af9 _ hc _,hW,fun e2 ob os2 K2 hx ho ed=>h e2 ob K2 hx (by rw[if_pos hc]at ho;subst ho;exact ed)⟩
def dB{o:Oper}{σ:St}{K:St->Prop}{c:Nat}{l:List Operand}{v:AV}{os:List Ob}(hc:3<=c)(he:ly c σ.aa os)(hW:K ((⟨σ.env,os⟩:St).put o.dst v))(h:∀ e2 (_:List Ob) (K2:St->Prop),rT 0 l σ e2 σ.aa->K2 ((⟨e2,os⟩:St).put o.dst v)->cm P o ⟨e2,σ.aa⟩ K2):LW P o σ K c l :=
 ⟨v,os,he,hW,λe2 ob os2 K2 hx ho ed=>by rw[if_neg Ey]at ho;obtain⟨rfl,rfl⟩:=ho;exact h e2 σ.aa K2 ⟨hx.1,λ_ _ _ _=>by simp[iM]⟩ ed⟩
def parts_eq{parts:Array (Nat×Operand)}{σ τ:St}(h:∀ x∈parts.toList.map (·.2),ev τ x=ev σ x):
  (parts.toList.map λp=>(p.1,ev τ p.2))=(parts.toList.map λp=>(p.1,ev σ p.2))/\(parts.toList.all λp=>(cellsOf (ev τ p.2)).all dh)=(parts.toList.all λp=>(cellsOf (ev σ p.2)).all dh):=by
 have hp:(parts.toList.map λp=>(p.1,ev τ p.2))=(parts.toList.map λp=>(p.1,ev σ p.2)):=tZ λp hp=>by rw[h _ (Ew hp)]
 exact⟨hp,by simpa [List.all_map,Function.comp_def] using congrArg (·.all λq=>(cellsOf q.2).all dh) hp⟩
def Sy{t:Ty}{cells:List AV}{c:Nat}{K:AV->Prop}(h:nI t cells c K):∃v,K v/\∀ K2:AV->Prop,K2 v->nI t cells c K2:=by
 unfold nI at h ⊢;split at h
 ·exact⟨_,h.2,λK2 hK=>by simp_all⟩
 ·split at h<;>first|exact h.elim|exact⟨_,h,λK2 hK=>by simp_all⟩
def aga{k:IntKind}{p q:Int}{K:Value->Prop}(h:xw k p q K):∃v,K v/\∀ K2:Value->Prop,K2 v->xw k p q K2:=by
 by_cases hk:k=.u64
 ·rw[xw,if_pos hk]at h;exact⟨_,h,λK2 h2=>by rw[xw,if_pos hk];exact h2⟩
 ·rw[xw,if_neg hk]at h;exact⟨_,h.2,λK2 h2=>by rw[xw,if_neg hk];exact⟨h.1,h2⟩⟩
def agb{k:IntKind}{p:Int}{K:Value->Prop}(h:vJ k p K):∃v,K v/\∀ K2:Value->Prop,K2 v->vJ k p K2:=by
 by_cases hk:k=.u64
 ·rw[vJ,if_pos hk]at h;exact⟨_,h,λK2 h2=>by rw[vJ,if_pos hk];exact h2⟩
 ·rw[vJ,if_neg hk]at h;exact⟨_,h.2,λK2 h2=>by rw[vJ,if_neg hk];exact⟨h.1,h2⟩⟩
def agc{op:BinOp}{k:IntKind}{p q:Int}{K:Value->Prop}(h:iu op k p q K):∃v,K v/\∀ K2:Value->Prop,K2 v->iu op k p q K2:=by
 unfold iu at h ⊢;split at h<;>first|exact aga h|exact⟨_,h.2,λK2 h'=>⟨h.1,h'⟩⟩|exact⟨_,h,λK2 h=>h⟩|exact h.elim
def agd{σ:St}{e:Nat->AV}{ob:List Ob}{id r:Nat}{row:List AV}(h:∀ o,σ.aa[id]?=some o->ob[id]?=some o)(hr:rowOf σ id r=some row):rowOf ⟨e,ob⟩ id r=some row:=by
 unfold rowOf at hr ⊢;cases ho:σ.aa[id]?<;>simp_all
def age{σ:St}{e:Nat->AV}{ob:List Ob}{v:AV}{q:Nat×Nat×List (List Int×AV)}(h:∀ id,v=.dD id->∀ o,σ.aa[id]?=some o->ob[id]?=some o)(hm:mW σ v=some q):mW ⟨e,ob⟩ v=some q:=by
 unfold mW at hm ⊢;split at hm
 ·rename_i id;split at hm
  ·rename_i ag L ho;have:=h id rfl _ ho;simp only[this];exact hm
  ·cases hm
 ·cases hm
def S7{o:Oper}{σ:St}{K:St->Prop}(hW:cm P o σ K):LW P o σ K (cls o.op) o.op.operands.toList:=by
 obtain⟨dst,op,type,pos,after,guard⟩:=o;unfold cm at hW;cases op
 case call c =>
  obtain⟨callee,args,argTypes⟩:=c;cases callee<;>try exact hW.elim
  rename_i b;cases b<;>try exact hW.elim
  all_goals simp only at hW
  case append =>
   (repeat' split at hW)<;>try exact hW.elim
   rename_i s x t t' cf ku _ _ _ _ z pre σ1 sz src hk hz oh rU;have uB:σ1=⟨σ.env,σ1.aa⟩/\∀ e,mB ⟨e,σ.aa⟩ (ty P (ty P t).elem).size (ev σ s)=some (pre,⟨e,σ1.aa⟩):=by
    unfold mB at oh ⊢;(repeat' split at oh)<;>simp_all
    all_goals obtain⟨rfl,rfl⟩:=oh;simp
   refine dB (os:=σ1.aa++[.arr sz (pre++src)]) (by simp[cls]) trivial (by have:=hW.2;rw[uB.1]at this;exact this) λe2 ob K2 hx ed=>?_;have j5:oT ⟨e2,σ.aa⟩ (ev σ x)=some (sz,src):=rU;unfold cm;simp[rT,Op.operands,Call.operands,cf]at hx;simp only[cf,ku,hx.1.1,hx.1.2,hk,hz,uB.2,j5];exact⟨hW.1,ed⟩
  case copy =>
   (repeat' split at hW)<;>try exact hW.elim
   rename_i cf ku _ _ id _ _ _ _ src he rU _ _ _ ho;refine dB (by simp[cls]) trivial hW.2 λe2 ob K2 hx ed=>?_;have j5:oT ⟨e2,σ.aa⟩ _=_:=rU;unfold cm;simp[rT,Op.operands,Call.operands,cf]at hx;simp only[cf,ku,hx.1.1,hx.1.2,he,j5,ho];exact⟨hW.1,ed⟩
  case clear =>
   (repeat' split at hW)<;>try exact hW.elim
   rename_i cf ku _ _ id _ _ _ _ he hz _ _ _ ho;refine dB (by simp[cls]) trivial hW.2 λe2 ob K2 hx ed=>?_;unfold cm;simp[rT,Op.operands,Call.operands,cf]at hx;simp only[cf,ku,hx,he,hz,ho];exact⟨hW.1,ed⟩
  all_goals(repeat' split at hW)<;>first|exact hW.elim|exact hW.2.elim|refine dA hW ?_|refine dA hW.2 ?_|refine dA hW.2.2 ?_
  all_goals
   intro e2 ob K2 hx ed;unfold cm;simp[rT,Op.operands,Call.operands,pQ,iM,cls, *]at hx ⊢;first|done|(simp_all;done)|(obtain⟨_,o',_,hk⟩:=hx;cases o'<;>simp_all [vM];done)
 case load t x =>
  simp only at hW;obtain⟨hk,hW⟩:=hW;(repeat' split at hW)<;>try exact hW.elim
  all_goals
   obtain⟨v,hK,hl⟩:=Sy hW;refine dA hK λe2 ob K2 hx ed=>?_;unfold cm;simp[rT,Op.operands,pQ,iM,cls, *]at hx;first|simp only[hx.1,agd hx.2 ‹rowOf _ _ _=_›]|simp only[hx]
   exact⟨hk,hl _ ed⟩
 case store t x y =>
  simp only at hW;obtain⟨hk,hW⟩:=hW;(repeat' split at hW)<;>try exact hW.elim
  rename_i id r c he _ row bK;have uB:∀ row,pG σ id r row=⟨σ.env,(pG σ id r row).aa⟩/\∀ e,pG ⟨e,σ.aa⟩ id r row=⟨e,(pG σ id r row).aa⟩:=by
   intro row;unfold pG;simp only;split<;>simp_all
  refine dB (by simp[cls]) (af' _ _ _ _) (by have:=hW.2;rw[(uB _).1]at this;exact this) λe2 ob K2 hx ed=>?_;have eR:rowOf ⟨e2,σ.aa⟩ id r=some row:=bK;unfold cm;simp only[hx.1 x (by simp[Op.operands]),hx.1 y (by simp[Op.operands]),he,eR];rw[(uB _).2];exact⟨hk,hW.1,ed⟩
 case build t parts =>
  simp only at hW;(repeat' split at hW)<;>first|exact hW.elim|refine dA hW.2 ?_
  all_goals
   intro e2 ob K2 hx ed;obtain⟨h1,h2⟩:=parts_eq (parts:=parts) (by simpa [Op.operands] using hx.1);unfold cm;simp only[h1,h2, *];simp[hW.1]
 case buildSlice t _ parts =>
  simp only at hW;(repeat' split at hW)<;>first|exact hW.elim|refine dB (aZ 3) (HN _ _) hW.2 ?_
  intro e2 ob K2 hx ed;obtain⟨h1,h2⟩:=parts_eq (parts:=parts) (by simpa [Op.operands] using hx.1);unfold cm;simp only[h1,h2, *];simp[hW.1]
 case makeFunc fn first captured =>
  simp only at hW;split at hW<;>first|exact hW.elim|refine dA hW.2 λe2 ob K2 hx ed=>?_
  unfold cm;simp only[tZ (l:=captured.toList) (f:=ev ⟨e2,ob⟩) (g:=ev σ) λy hy=>hx.1 y (by simp only[Op.operands,CM,List.mem_append];exact .inr hy)];exact⟨hW.1,ed⟩
 case unOp op t x =>
  simp only at hW;split at hW
  ·rename_i b he;refine dA hW λe2 ob K2 hx ed=>?_;unfold cm;simp[rT,Op.operands]at hx;simp only[hx.1,he];exact ed
  ·rename_i k p he;obtain⟨v,hK,hl⟩:=agb hW;refine dA hK λe2 ob K2 hx ed=>?_;unfold cm;simp[rT,Op.operands]at hx;simp only[hx.1,he];exact hl _ ed
  ·exact hW.elim
 case binOp op t x y yt =>
  simp only at hW;split at hW
  ·rename_i k p k' q he hf;obtain⟨hk,hW⟩:=hW;obtain⟨v,hK,hl⟩:=agc hW;refine dA hK λe2 ob K2 hx ed=>?_;unfold cm;simp[rT,Op.operands,he,hf]at hx;simp only[hx.1.1,hx.1.2];exact⟨hk,hl _ ed⟩
  all_goals(repeat' split at hW)<;>first|exact hW.elim|exact hW.2.elim|refine dA hW.2 ?_
  all_goals
   intro e2 ob K2 hx ed;unfold cm;simp[rT,Op.operands, *]at hx ⊢;first|done|(simp_all;done)
 case slice t x lo hi mx =>
  simp only at hW;obtain⟨hk,ei,rfl,hW⟩:=hW;cases lo<;>cases hi<;>simp only[fc,Option.map_none]at hW;all_goals(repeat' split at hW)<;>first|exact hW.elim|exact hW.2.elim|exact hW.2.2.elim|refine dA hW.2 ?_|refine dA hW.2.2 ?_|refine dA hW.2.2.2 ?_
  all_goals
   intro e2 ob K2 hx ed;unfold cm;simp only[cH.injEq]at *;simp[rT,Op.operands,pQ,iM,cls, *]at hx ⊢;first|done|(simp_all;done)|(obtain⟨_,o',_,hk⟩:=hx;cases o'<;>simp_all [vM];done)|(obtain⟨_,⟨o',_,hk⟩,_⟩:=hx;cases o'<;>simp_all [vM];done)|trace_state
 case makeMap t r =>
  simp only at hW;obtain⟨⟨rfl,hk⟩,hK⟩:=hW;refine dB (aZ 3) (HN _ _) hK λe2 ob K2 hx ed=>?_;unfold cm;exact⟨⟨rfl,hk⟩,ed⟩
 case lookup t x i ok =>
  simp only at hW;split at hW
  ·rename_i ag l id jr L z fR pg ph;refine dA hW.2 λe2 ob K2 hx ed=>?_;have h1:=hx.1 x (by simp[Op.operands]);have h2:=hx.1 i (by simp[Op.operands]);have h3:mW ⟨e2,ob⟩ (ev σ x)=some (id,jr,L):=age (λpK bZ o ho=>by
    have:=hx.2 x (by simp[Op.operands]) pK (by rw[bZ];rfl);unfold iM at this;simp[cls]at this;exact this o ho) pg
   unfold cm;simp only[h1,h2,fR,h3,ph];exact⟨hW.1,ed⟩
  ·exact hW.elim
 case mapUpdate t m k x =>
  simp only at hW;split at hW
  ·rename_i fR pg;obtain⟨mD,Bj⟩:=hW;refine dB (v:=.undef) (os:=_) (by simp[cls]) trivial Bj λe2 ob K2 hx ed=>?_;have h1:=hx.1 m (by simp[Op.operands]);have h2:=hx.1 k (by simp[Op.operands]);have h3:=hx.1 x (by simp[Op.operands]);have h4:mW ⟨e2,σ.aa⟩ (ev σ m)=_:=pg;unfold cm;simp only[h1,h2,h3,fR,h4];exact⟨mD,ed⟩
  ·exact hW.elim
 case mapEntry t m k =>
  simp only at hW;split at hW
  ·rename_i fR pg ph;obtain⟨mD,Bj⟩:=hW;refine dB (v:=_) (os:=_) (by simp[cls]) trivial Bj λe2 ob K2 hx ed=>?_;have h1:=hx.1 m (by simp[Op.operands]);have h2:=hx.1 k (by simp[Op.operands]);have h4:mW ⟨e2,σ.aa⟩ (ev σ m)=_:=pg;unfold cm;simp only[h1,h2,fR,h4,ph];exact⟨mD,ed⟩
  ·exact hW.elim
 case entryStore t m s x =>
  simp only at hW;split at hW
  ·rename_i hs pg;obtain⟨mD,Bj⟩:=hW;refine dB (v:=.undef) (os:=_) (by simp[cls]) trivial Bj λe2 ob K2 hx ed=>?_;have h1:=hx.1 m (by simp[Op.operands]);have h2:=hx.1 s (by simp[Op.operands]);have h3:=hx.1 x (by simp[Op.operands]);have h4:mW ⟨e2,σ.aa⟩ (ev σ m)=_:=pg;unfold cm;simp only[h1,h2,h3,hs,h4];exact⟨mD,ed⟩
  ·exact hW.elim
 all_goals(try simp only at hW);(try exact hW.elim)
 all_goals(repeat' split at hW)<;>first|exact hW.elim|exact hW.2.elim|exact hW.2.2.elim|refine dA hW ?_|refine dA hW.2 ?_|refine dA hW.2.2 ?_|refine dA hW.2.2.2 ?_|refine dB (aZ 3) (HN _ _) hW.2 ?_|refine dB (aZ 3) (HN _ _) hW.2.1 ?_
 all_goals
  intro e2 ob K2 hx ed;unfold cm;simp[rT,Op.operands,pQ,iM,cls,-gA, *]at hx ⊢;first|done|(simp_all;done)|(obtain⟨_,rfl,_⟩:=hW;simp_all;done)|(obtain⟨_,o',_,hk⟩:=hx;cases o'<;>simp_all [vM];done)
def afw{o:Oper}{σ:St}{K:St->Prop}(hW:cm P o σ K):
  ∃ v os,ly (cls o.op) σ.aa os/\K ((⟨σ.env,os⟩:St).put o.dst v)/\∀ (e2:Nat->AV) (K2:St->Prop),(∀ x∈o.op.operands.toList,ev ⟨e2,σ.aa⟩ x=ev σ x)->K2 ((⟨e2,os⟩:St).put o.dst v)->cm P o ⟨e2,σ.aa⟩ K2:=by
 obtain⟨v,os,h1,h2,h3⟩:=S7 hW;refine⟨v,os,h1,h2,λe2 K2 hx hK=>h3 e2 _ os K2 ⟨hx,λ_ _ _ _=>?_⟩ ?_ hK⟩
 ·unfold iM;(repeat' split)<;>first|trivial|exact λo ho=>ho|exact λo ho=>⟨o,ho,zH o⟩
 ·split
  ·rename_i hc;simpa [ly,hc] using h1
  ·exact⟨rfl,rfl⟩
def Sz{o:Oper}{σ:St}{K:St->Prop}(hc:cls o.op<=2)(hW:cm P o σ K):
  ∃ v,K (σ.put o.dst v)/\∀ (σ2:St) (K2:St->Prop),(∀ x∈o.op.operands.toList,ev σ2 x=ev σ x)->(∀ x∈o.op.operands.toList,∀ id,pQ (ev σ x)=some id->iM (cls o.op) σ.aa[id]? σ2.aa[id]?) ->
   K2 (σ2.put o.dst v)->cm P o σ2 K2:=by
 obtain⟨v,os,h1,h2,h3⟩:=S7 hW;simp only[ly,hc,if_true]at h1 h3;subst h1;exact⟨v,h2,λσ2 K2 hx ho hK=>h3 σ2.env σ2.aa _ K2 ⟨hx,ho⟩ rfl hK⟩
end Go.Am

