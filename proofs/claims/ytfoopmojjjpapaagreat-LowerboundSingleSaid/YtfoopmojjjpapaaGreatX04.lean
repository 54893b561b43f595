import Derived.Test.YtfoopmojjjpapaaGreatX03
set_option linter.all false
set_option maxHeartbeats 0
set_option maxRecDepth 20000
open Bool renaming and_eq_true→bb
open List renaming mem_cons→bw,mem_of_getElem?→gI,getElem?_map→bI,getElem?_cons_zero→uY,getElem?_append_left→eZ,getElem?_set_ne→gA,getElem?_cons_succ→tJ,getElem?_append_right→iA,length_cons→dq,eq_nil_of_length_eq_zero→Au,getElem?_eq_some_iff→aV,getD_eq_getElem?_getD→az,mem_map_of_mem→DT,length_map→fK,mem_map→bW,all_eq_true→fW,nodup_nil→GG,map_congr_left→tI
open Option renaming map_eq_some_iff→wq,some→cA,map_some→eH
open Nat renaming lt_or_ge→dP,le_refl→aY
open Array renaming toList_append→B9,getD_eq_getD_getElem?→eL,getElem?_append_left→GD,getElem?_toList→DU,getElem?_map→PU
namespace Go.Am
variable {P:Program}
mutual
def bk(ρ:Nat->Nat):AV->AV
 |.ref id sz off len=>.ref (ρ id) sz off len
 |.ptr id r c=>.ptr (ρ id) r c
 |.agg cs=>.agg (ql ρ cs)
 |.bD cs=>.bD (ql ρ cs)
 |.fn f cs=>.fn f (ql ρ cs)
 |.iC t v=>.iC t (bk ρ v)
 |.dD id=>.dD (ρ id)
 |v=>v
def ql(ρ:Nat->Nat):List AV->List AV
 |[]=>[]
 |v::vs=>bk ρ v::ql ρ vs
end
def xZ(ρ:Nat->Nat)(l:List AV):ql ρ l=l.map (bk ρ):=by
 induction l with
 |nil=>simp[ql]
 |cons v l ih=>simp[ql,ih]
def bM(ρ:Nat->Nat):Ob->Ob
 |.gone=>.gone
 |.var cs=>.var (cs.map (bk ρ))
 |.arr sz rows=>.arr sz (rows.map (·.map (bk ρ)))
 |.mp ag L=>.mp ag (L.map λp=>(p.1,bk ρ p.2))
mutual
def flat:AV->Bool
 |.tree ..=>false
 |.cB _=>false
 |.agg cs=>Cw cs
 |.bD cs=>Cw cs
 |.fn _ cs=>Cw cs
 |.iC _ v=>flat v
 |_=>true
def Cw:List AV->Bool
 |[]=>true
 |v::vs=>flat v&&Cw vs
end
def KW{l:List AV}(h:Cw l=true):∀ v∈l,flat v=true:=by
 induction l with
 |nil=>intro v hv;simp at hv
 |cons x l ih =>
  simp only[Cw,bb]at h;intro v hv;rcases bw.1 hv with rfl|hv
  ·exact h.1
  ·exact ih h.2 v hv
def D6:Ob->Prop
 |.gone=>True
 |.var cs=>∀ v∈cs,flat v=true
 |.arr _ rows=>∀ row∈rows,∀ v∈row,flat v=true
 |.mp _ L=>∀ p∈L,flat p.2=true
def aw.aeV{os:List Ob}{w:World}{Z Z':Nat->Prop}{blk:gB}{v:AV}{cv:Value}(h:aw os w Z blk v cv)(hf:flat v=true):aw os w Z' blk v cv:=by
 induction h with
 |undef cv=>exact .undef cv
 |cO v cv h=>cases h<;>first|exact .cO _ _ (.lit _)|simp[flat]at hf
 |cB=>simp[flat]at hf
 |k9 id sz off len cv h h1=>exact .k9 id sz off len cv h h1
 |nV id r c cv h h1=>exact .nV id r c cv h h1
 |ref id sz off len b o cap cap' rows h hb hl hc jV=>exact .ref id sz off len b o cap cap' rows h hb hl hc jV
 |mK id sz h hb=>exact .mK id sz h hb
 |nj id sz off b x bo rows h hb hl=>exact .nj id sz off b x bo rows h hb hl
 |oN id c b cap cells h hb=>exact .oN id c b cap cells h hb
 |py id r c sz b o cap rows h hb=>exact .py id r c sz b o cap rows h hb
 |agg cs bm hs _ ih=>simp only[flat]at hf;exact .agg cs bm hs (λj x hx=>ih j x hx (KW hf x (gI hx)))
 |bD cs bm hs _ ih=>simp only[flat]at hf;exact .bD cs bm hs (λj x hx=>ih j x hx (KW hf x (gI hx)))
 |fn f cs bm hs _ ih=>simp only[flat]at hf;exact .fn f cs bm hs (λj x hx=>ih j x hx (KW hf x (gI hx)))
 |iC t v cv _ ih=>simp only[flat]at hf;exact .iC t v cv (ih hf)
 |dD id b ag L h hb=>exact .dD id b ag L h hb
 |q9 id cv h h1=>exact .q9 id cv h h1
def aw.up{os gN:List Ob}{w:World}{Z Z':Nat->Prop}{blk ke:gB}{ρ:Nat->Nat}{v:AV}{cv:Value}(h:aw os w Z blk v cv)(hz:∀ b,Z b->Z' b)(ho:∀ j o,os[j]?=some o->gN[ρ j]?=some (bM ρ o)/\(o≠.gone->ke (ρ j)=blk j)):aw gN w Z' ke (bk ρ v) cv:=by
 induction h with
 |undef cv=>exact .undef cv
 |cO v cv h =>
  have h':aw gN w Z' ke v cv:=.cO _ _ (h.mono (λb hb=>⟨hz b hb,rfl⟩));cases h<;>simpa [bk] using h'
 |cB cells b o f tW hc ht=>exact .cB cells b o f (hz b tW) hc (λj x hx=>(ht j x hx).mono (λb hb=>⟨hz b hb,rfl⟩))
 |k9 id sz off len cv h h1=>exact .k9 _ sz off len cv (ho id _ h).1 h1
 |nV id r c cv h h1=>exact .nV _ r c cv (ho id _ h).1 h1
 |ref id sz off len b o cap cap' rows h hb hl hc jV =>
  obtain⟨h1,h2⟩:=ho id _ h;exact .ref _ sz off len b o cap cap' _ h1 ((h2 GM).trans hb) (by simpa using hl) hc jV
 |mK id sz h hb =>
  obtain⟨h1,h2⟩:=ho id _ h;exact .mK _ sz h1 ((h2 GM).trans hb)
 |nj id sz off b x bo rows h hb hl =>
  obtain⟨h1,h2⟩:=ho id _ h;exact .nj _ sz off b x bo _ h1 ((h2 GM).trans hb) (by simpa using hl)
 |oN id c b cap cells h hb =>
  obtain⟨h1,h2⟩:=ho id _ h;exact .oN _ c b cap _ h1 ((h2 GM).trans hb)
 |py id r c sz b o cap rows h hb =>
  obtain⟨h1,h2⟩:=ho id _ h;exact .py _ r c sz b o cap _ h1 ((h2 GM).trans hb)
 |agg cs bm hs _ ih =>
  simp only[bk,xZ];refine .agg _ bm (by simpa using hs) (λj x hx=>?_);simp only[bI,wq]at hx;obtain⟨y,hy,rfl⟩:=hx;exact ih j y hy
 |bD cs bm hs _ ih =>
  simp only[bk,xZ];refine .bD _ bm (by simpa using hs) (λj x hx=>?_);simp only[bI,wq]at hx;obtain⟨y,hy,rfl⟩:=hx;exact ih j y hy
 |fn f cs bm hs _ ih =>
  simp only[bk,xZ];refine .fn f _ bm (by simpa using hs) (λj x hx=>?_);simp only[bI,wq]at hx;obtain⟨y,hy,rfl⟩:=hx;exact ih j y hy
 |iC t v cv _ ih=>simp only[bk];exact .iC t _ cv ih
 |dD id b ag L h hb =>
  obtain⟨h1,h2⟩:=ho id _ h;exact .dD _ b ag _ h1 ((h2 GM).trans hb)
 |q9 id cv h h1=>exact .q9 _ cv (ho id _ h).1 h1
def Eb{ρ:Nat->Nat}{o:Ob}:bM ρ o=.gone↔o=.gone:=by cases o<;>simp[bM]
def Ob.aeW{ρ:Nat->Nat}{x y:Ob}(h:x.ej y):(bM ρ x).ej (bM ρ y):=by
 cases x<;>cases y<;>simp[Ob.ej,bM]at h ⊢<;>exact h
def aw.down{os gN:List Ob}{w:World}{Z Z':Nat->Prop}{blk ke:gB}{ρ:Nat->Nat}{v:AV}{cv:Value}(h:aw os w Z blk v cv)(hz:∀ b,Z b->Z' b)(ho:∀ j x,os[ρ j]?=some x->∃ o,gN[j]?=some o/\(o=.gone\/(x=bM ρ o/\ke j=blk (ρ j)))):∀ v',v=bk ρ v'->aw gN w Z' ke v' cv:=by
 induction h with
 |undef cv=>intro v' hv;cases v'<;>simp[bk]at hv;exact .undef cv
 |cO v cv h =>
  intro v' hv;have h':aw gN w Z' ke v cv:=.cO _ _ (h.mono (λb hb=>⟨hz b hb,rfl⟩));cases h<;>cases v'<;>simp[bk]at hv<;>(first|(subst hv;exact h')|(obtain⟨rfl,rfl⟩:=hv;exact h'))
 |cB cells b o f tW hc ht =>
  intro v' hv;cases v'<;>simp[bk]at hv;subst hv;exact .cB _ b o f (hz b tW) hc (λj x hx=>(ht j x hx).mono (λb hb=>⟨hz b hb,rfl⟩))
 |k9 id sz off len cv h h1 =>
  intro v' hv;cases v'<;>simp[bk]at hv;obtain⟨rfl,rfl,rfl,rfl⟩:=hv;obtain⟨o,h2,rfl |⟨h3,_⟩⟩:=ho _ _ h
  ·exact .k9 _ _ _ _ cv h2 h1
  ·have:=Eb.1 h3.symm;subst this;exact .k9 _ _ _ _ cv h2 h1
 |nV id r c cv h h1 =>
  intro v' hv;cases v'<;>simp[bk]at hv;obtain⟨rfl,rfl,rfl⟩:=hv;obtain⟨o,h2,rfl |⟨h3,_⟩⟩:=ho _ _ h
  ·exact .nV _ _ _ cv h2 h1
  ·have:=Eb.1 h3.symm;subst this;exact .nV _ _ _ cv h2 h1
 |ref id sz off len b o cap cap' rows h hb hl hc jV =>
  intro v' hv;cases v'<;>simp[bk]at hv;obtain⟨rfl,rfl,rfl,rfl⟩:=hv;obtain⟨x,h2,rfl |⟨h3,h4⟩⟩:=ho _ _ h
  ·exact .k9 _ _ _ _ _ h2 rfl
  ·cases x<;>simp[bM]at h3;obtain⟨rfl,rfl⟩:=h3;exact .ref _ _ _ _ b o cap cap' _ h2 (h4.trans hb) (by simpa using hl) hc jV
 |mK id sz h hb =>
  intro v' hv;cases v'<;>simp[bk]at hv;obtain⟨rfl,rfl,rfl,rfl⟩:=hv;obtain⟨x,h2,rfl |⟨h3,h4⟩⟩:=ho _ _ h
  ·exact .k9 _ _ _ _ _ h2 rfl
  ·cases x<;>simp[bM]at h3;obtain⟨rfl,h3⟩:=h3;subst h3;exact .mK _ _ h2 (h4.trans hb)
 |nj id sz off b x bo rows h hb hl =>
  intro v' hv;cases v'<;>simp[bk]at hv;obtain⟨rfl,rfl,rfl,rfl⟩:=hv;obtain⟨y,h2,rfl |⟨h3,h4⟩⟩:=ho _ _ h
  ·exact .k9 _ _ _ _ _ h2 rfl
  ·cases y<;>simp[bM]at h3;obtain⟨rfl,rfl⟩:=h3;exact .nj _ _ _ b x bo _ h2 (h4.trans hb) (by simpa using hl)
 |oN id c b cap cells h hb =>
  intro v' hv;cases v'<;>simp[bk]at hv;obtain⟨rfl,rfl,rfl⟩:=hv;obtain⟨y,h2,rfl |⟨h3,h4⟩⟩:=ho _ _ h
  ·exact .nV _ _ _ _ h2 rfl
  ·cases y<;>simp[bM]at h3;exact .oN _ _ b cap _ h2 (h4.trans hb)
 |py id r c sz b o cap rows h hb =>
  intro v' hv;cases v'<;>simp[bk]at hv;obtain⟨rfl,rfl,rfl⟩:=hv;obtain⟨y,h2,rfl |⟨h3,h4⟩⟩:=ho _ _ h
  ·exact .nV _ _ _ _ h2 rfl
  ·cases y<;>simp[bM]at h3;obtain⟨rfl,rfl⟩:=h3;exact .py _ _ _ _ b o cap _ h2 (h4.trans hb)
 |agg cs bm hs _ ih =>
  intro v' hv;cases v'<;>simp[bk,xZ]at hv;rename_i sK;subst hv;exact .agg _ bm (by simpa using hs) (λj x hx=>ih j (bk ρ x) (by simp[hx]) x rfl)
 |bD cs bm hs _ ih =>
  intro v' hv;cases v'<;>simp[bk,xZ]at hv;rename_i sK;subst hv;exact .bD _ bm (by simpa using hs) (λj x hx=>ih j (bk ρ x) (by simp[hx]) x rfl)
 |fn f cs bm hs _ ih =>
  intro v' hv;cases v'<;>simp[bk,xZ]at hv;obtain⟨rfl,hv⟩:=hv;subst hv;exact .fn _ _ bm (by simpa using hs) (λj x hx=>ih j (bk ρ x) (by simp[hx]) x rfl)
 |iC t v cv _ ih =>
  intro v' hv;cases v'<;>simp[bk]at hv;obtain⟨rfl,hv⟩:=hv;exact .iC _ _ cv (ih _ hv)
 |dD id b ag L h hb =>
  intro v' hv;cases v'<;>simp[bk]at hv;subst hv;obtain⟨y,h2,rfl |⟨h3,h4⟩⟩:=ho _ _ h
  ·exact .q9 _ _ h2 rfl
  ·cases y<;>simp[bM]at h3;obtain⟨rfl,h3⟩:=h3;exact .dD _ b _ _ h2 (h4.trans hb)
 |q9 id cv h h1 =>
  intro v' hv;cases v'<;>simp[bk]at hv;subst hv;obtain⟨y,h2,rfl |⟨h3,h4⟩⟩:=ho _ _ h
  ·exact .q9 _ _ h2 h1
  ·exact .q9 _ _ (by rw[h2,Eb.1 h3.symm]) h1
def KX(P : Program)(f : FuncId): Prop := ∃ fn, P.funcs[f]? = some fn /\ (fn.name == "runtime.NumGoroutine") = false /\ fn.body.isNone = false
def Holds(P:Program)(f:FuncId)(args:List AV)(aa:List Ob)(res:AV)(bn:List Ob):Prop :=
 KX P f/\∀ γ:Cx,γ.tmps.size=args.length->bx ⟨λk=>args.getD k .undef,aa⟩ γ ->
  Calls P f γ.tmps γ.w (λe w'=>∃ cv aA,e=.returned cv/\aA.w=w'/\aA.tmps = #[cv]/\bx ⟨λk=>[res].getD k .undef,bn⟩ aA/\Fr aa γ bn aA)
inductive cQ(σ:St)(kp:Nat->Prop):AV->AV->Prop
 |lit (x:Value):cQ σ kp (.lit x) (.lit x)
 |tree (s:Nat) (r:List (List AV)):cQ σ kp (.tree s r) (.tree s r)
 |nil (sz:Nat):cQ σ kp (.tree sz []) (.lit (.slice none 0 0))
 |ref (id sz off len:Nat) (rows gV:List (List AV)) (g:Nat->Nat->AV) (ho:σ.aa[id]?=some (.arr sz rows)) (tQ:¬ kp id) (hl:gV.length=((rows.drop off).take len).length) (hw:∀ row∈gV,row.length=sz)
   (h1:∀ r c v,cellAt gV r c=some v->cellAt ((rows.drop off).take len) r c=some (g r c)) (h2:∀ r c v,cellAt gV r c=some v->cQ σ kp v (g r c)):cQ σ kp (.tree sz gV) (.ref id sz off len)
inductive aZ(σ:St)(kp:Nat->Prop)(ρ:Nat->Nat)(snap:Bool):AV->AV->Prop
 |same (v:AV):aZ σ kp ρ snap v (bk ρ v)
 |snap (c d:AV) (hs:snap=true) (h:cQ σ kp c d):aZ σ kp ρ snap c d
 |agg (cs ds:List AV) (hl:cs.length=ds.length) (h:∀ (j:Nat) c d,cs[j]?=some c->ds[j]?=some d->aZ σ kp ρ snap c d):aZ σ kp ρ snap (.agg cs) (.agg ds)
 |bD (cs ds:List AV) (hl:cs.length=ds.length) (h:∀ (j:Nat) c d,cs[j]?=some c->ds[j]?=some d->aZ σ kp ρ snap c d):aZ σ kp ρ snap (.bD cs) (.bD ds)
def bq(n:Nat)(aj:List Nat)(j:Nat):Nat:=if j<aj.length then aj.getD j 0 else n+(j-aj.length)
def e8(aa:List Ob):List Nat->List Ob->List Ob
 |i::aj,o::new=>e8 (aa.set i o) aj new
 |[],new=>aa++new
 |_::_,[]=>aa
def KP(aj:List Nat):∀ (aa new:List Ob),aj.length<=new.length->(e8 aa aj new).length=aa.length+(new.length-aj.length):=by
 induction aj with
 |nil=>intro aa new _;simp[e8]
 |cons i aj ih =>
  intro aa new h;cases new with
  |nil=>simp at h
  |cons o new=>simp only[e8];rw[ih _ _ (by simpa using h)];simp
def G8(aj:List Nat):∀ (aa new:List Ob),aj.length<=new.length->aj.Nodup->(∀ i∈aj,i<aa.length)->∀ j,j<aj.length->(e8 aa aj new)[aj.getD j 0]?=new[j]?:=by
 induction aj with
 |nil=>intro aa new _ _ _ j hj;simp at hj
 |cons i aj ih =>
  intro aa new h hn hl j hj;cases new with
  |nil=>simp at h
  |cons o new =>
   simp only[e8];rw[List.nodup_cons]at hn;have hi:=hl i GM;have h':aj.length<=new.length:=by simpa using h
   cases j with
   |zero =>
    simp only[List.getD_cons_zero,uY];have key:∀ (aj:List Nat) (aa new:List Ob),aj.length<=new.length->i ∉ aj->i<aa.length->(e8 aa aj new)[i]?=aa[i]?:=by
     intro aj
     induction aj with
     |nil=>intro aa new _ _ hi;simp only[e8];rw[eZ hi]
     |cons k aj ih2 =>
      intro aa new h wN hi;cases new with
      |nil=>simp at h
      |cons o new =>
       simp only[bw,not_or]at wN;simp only[e8];rw[ih2 _ _ (by simpa using h) wN.2 (by simpa using hi),gA (Ne.symm wN.1)]
    rw[key aj _ _ h' hn.1 (by simpa using hi)];simp[hi]
   |succ j =>
    simp only[List.getD_cons_succ,tJ];exact ih _ _ h' hn.2 (λk hk=>by simpa using hl k (by simp[hk])) j (by simpa using hj)
def Hd(aj:List Nat):∀ (aa new:List Ob),aj.length<=new.length->∀ i,i ∉ aj->i<aa.length->(e8 aa aj new)[i]?=aa[i]?:=by
 induction aj with
 |nil=>intro aa new _ i _ hi;simp only[e8];rw[eZ hi]
 |cons k aj ih =>
  intro aa new h i wN hi;cases new with
  |nil=>simp at h
  |cons o new =>
   simp only[bw,not_or]at wN;simp only[e8];rw[ih _ _ (by simpa using h) i wN.2 (by simpa using hi),gA (Ne.symm wN.1)]
def RB(aj:List Nat):∀ (aa new:List Ob),aj.length<=new.length->∀ m,(e8 aa aj new)[aa.length+m]?=new[aj.length+m]?:=by
 induction aj with
 |nil=>intro aa new _ m;simp only[e8];rw[iA GK];simp
 |cons k aj ih =>
  intro aa new h m;cases new with
  |nil=>simp at h
  |cons o new =>
   simp only[e8];have:=ih (aa.set k o) new (by simpa using h) m;simp only[List.length_set]at this;rw[this];simp only[dq];have e:aj.length+1+m=(aj.length+m)+1:=GK;rw[e];simp
end Go.Am
namespace Go.Am
variable {P:Program}
def He(P:Program)(f:FuncId)(args:List AV)(σ:St)(K:AV->St->Prop):Prop :=
 ∃ (aj:List Nat) (snap:Bool) (dL:List AV) (bY:List Ob) (res:AV) (db:List Ob),Holds P f dL bY res db /\
  (aj.Nodup/\bY.length=aj.length/\(∀ (j:Nat) o,bY[j]?=some o->σ.aa[aj.getD j 0]?=some (bM (bq σ.aa.length aj) o)) /\
   dL.length=args.length/\(∀ (j:Nat) c d,dL[j]?=some c->args[j]?=some d->aZ σ (·∈aj) (bq σ.aa.length aj) snap c d) /\
   (snap=true->flat res=true/\∀ o∈db,D6 o)) /\
  K (bk (bq σ.aa.length aj) res) { σ with aa:=e8 σ.aa aj (db.map (bM (bq σ.aa.length aj))) }
def cQ.AM{σ:St}{γ:Cx}(h:bx σ γ){kp:Nat->Prop}{γc:Cx}(hz:∀ b,γ.Z b->γc.Z b)(hw:γc.w=γ.w)(KY:∀ id b o cap,¬ kp id->Live σ.aa id->γ.blk id=some (b,o,cap)->γc.Z b){c d:AV}(ha:cQ σ kp c d):∀ cv,aw σ.aa γ.w γ.Z γ.blk d cv->iB γc.w γc.Z c cv:=by
 induction ha with
 |lit x=>intro cv hv;rw[hv.cF];exact .lit x
 |tree s r=>intro cv hv;exact hv.AN.mono (λb hb=>⟨hz b hb,by rw[hw]⟩)
 |nil sz=>intro cv hv;rw[hv.cF];exact .nil sz 0 none
 |ref id sz off len rows gV g bP tQ hl0 G0 qZ nR ih =>
  intro cv hv;obtain⟨h0,cD,hblk⟩:=h.dT id _ bP;have bS:Live σ.aa id:=⟨_,bP,GM⟩;cases hv with
  |cO _ _ h=>cases h
  |k9 _ _ _ _ _ h=>rw[bP]at h;simp at h
  |mK _ _ h' hb =>
   have:gV=[]:=Au (by simpa using hl0);subst this;exact iB.nil sz 0 none
  |nj _ _ _ b x bo aeY h' hb hl =>
   have:gV=[]:=Au (by simpa using hl0);subst this;exact iB.nil sz 0 (some ⟨b,x,none⟩)
  |ref _ _ _ _ b o cap cap' aeY h' hb hl hc jV =>
   rw[bP]at h';simp at h';subst h';rcases hblk with⟨h1,_⟩|⟨b',o',Ec,cur,t,h1,h2,h3,h4,h5,h6⟩
   ·rw[hb]at h1;simp at h1
   ·rw[hb]at h1;simp at h1;obtain⟨rfl,rfl,rfl⟩:=h1;have hlen:((rows.drop off).take len).length=len:=P2;have wJ:∀ r c v,cellAt ((rows.drop off).take len) r c=some v->cellAt rows (off+r) c=some v/\r<len:=by
     intro r c v hv;simp only[cellAt,List.getElem?_take,List.getElem?_drop]at hv;split at hv
     ·exact⟨hv,by assumption⟩
     ·simp at hv
    have Ku:γc.Z b:=KY id b o cap tQ bS hb;have:=iB.tree (w:=γc.w) (Z:=γc.Z) sz gV b (o+off*sz) cap' (λr c=>cur.getD (o+((off+r)*sz+c)) Go.undef) Ku
     G0 (by rw[hl0,hlen];exact jV)
     (λr c v hv=>by
      obtain⟨vj,hr⟩:=wJ r c _ (qZ r c v hv);obtain⟨wI,fY⟩:=Ed cD vj;have aX:=AO (show off+r<cap by omega) fY;rw[hw];have e:o+off*sz+(r*sz+c)=o+((off+r)*sz+c):=by rw[Nat.add_mul];omega
      rw[e];exact AP h2 GK)
     (λr c v hv=>by
      obtain⟨vj,_⟩:=wJ r c _ (qZ r c v hv);exact ih r c v hv _ (h6 _ _ _ vj))
    rw[hl0,hlen]at this;exact this
def aZ.rel{σ:St}{γ:Cx}(h:bx σ γ){kp:Nat->Prop}{ρ:Nat->Nat}{bY:List Ob}{snap:Bool}{γc:Cx}(hz:∀ b,γ.Z b->γc.Z b)(hw:γc.w=γ.w)(KY:snap=true->∀ id b o cap,¬ kp id->Live σ.aa id->γ.blk id=some (b,o,cap)->γc.Z b)(ho:∀ j x,σ.aa[ρ j]?=some x->∃ o,bY[j]?=some o/\(o=.gone\/(x=bM ρ o/\γc.blk j=γ.blk (ρ j)))){c d:AV}(ha:aZ σ kp ρ snap c d):∀ cv,aw σ.aa γ.w γ.Z γ.blk d cv->aw bY γc.w γc.Z γc.blk c cv:=by
 induction ha with
 |same v =>
  intro cv hv;rw[hw];exact hv.down hz ho v rfl
 |snap c d hs hf =>
  intro cv hv;exact .cO _ _ (hf.AM h hz hw (KY hs) cv hv)
 |agg cs ds hl _ ih =>
  intro cv hv;obtain⟨bm,rfl,h1,h2⟩:=hv.RQ;refine .agg cs bm GK (λj x hx=>?_);have hj:j<ds.length:=by have:=(aV.1 hx).1;omega
  exact ih j x ds[j] hx (by simp[hj]) _ (h2 j _ (by simp[hj]))
 |bD cs ds hl _ ih =>
  intro cv hv;obtain⟨bm,rfl,h1,h2⟩:=hv.RR;refine .bD cs bm GK (λj x hx=>?_);have hj:j<ds.length:=by have:=(aV.1 hx).1;omega
  exact ih j x ds[j] hx (by simp[hj]) _ (h2 j _ (by simp[hj]))
def RS{n:Nat}{aj:List Nat}(_hs:∀ i∈aj,i<n){j:Nat}(h:bq n aj j<n):j<aj.length/\bq n aj j=aj.getD j 0:=by
 unfold bq at h ⊢;split
 ·exact⟨by assumption,rfl⟩
 ·rename_i hj;rw[if_neg hj]at h;omega
def aF{aj:List Nat}{j:Nat}(h:j<aj.length):aj.getD j 0∈aj:=by
 rw[az];simp[h]
def RT{aj:List Nat}(hn:aj.Nodup){i j:Nat}(hi:i<aj.length)(hj:j<aj.length)(h:aj.getD i 0=aj.getD j 0):i=j:=by
 rw[az,az]at h;simp[hi,hj]at h;exact(List.getElem_inj hn).1 h
def Hf{aj:List Nat}{i:Nat}(h:i∈aj):∃j,j<aj.length/\aj.getD j 0=i:=by
 obtain⟨j,hj⟩:=List.mem_iff_getElem?.1 h;have:=(aV.1 hj).1;exact⟨j,this,by rw[az,hj];rfl⟩
def cX(P:Program)(f:FuncId)(args:List AV)(aa:List Ob)(iF:AV->List Ob->Prop):Prop :=
 KX P f/\∀ γ:Cx,γ.tmps.size=args.length->bx ⟨λk=>args.getD k .undef,aa⟩ γ ->
  Calls P f γ.tmps γ.w (λe w'=>∃ res bn cv aA,iF res bn/\e=.returned cv/\aA.w=w'/\aA.tmps = #[cv]/\bx ⟨λk=>[res].getD k .undef,bn⟩ aA/\Fr aa γ bn aA)
def KZ(P:Program)(f:FuncId)(args:List AV)(σ:St)(K:AV->St->Prop):Prop :=
 ∃ (aj:List Nat) (snap:Bool) (dL:List AV) (bY:List Ob) (iF:AV->List Ob->Prop),cX P f dL bY iF /\
  (aj.Nodup/\bY.length=aj.length/\(∀ (j:Nat) o,bY[j]?=some o->σ.aa[aj.getD j 0]?=some (bM (bq σ.aa.length aj) o)) /\
   dL.length=args.length/\(∀ (j:Nat) c d,dL[j]?=some c->args[j]?=some d->aZ σ (·∈aj) (bq σ.aa.length aj) snap c d)) /\
  ∀ res db,iF res db->(snap=true->flat res=true/\∀ o∈db,D6 o) /\
   K (bk (bq σ.aa.length aj) res) { σ with aa:=e8 σ.aa aj (db.map (bM (bq σ.aa.length aj))) }
def RU{σ:St}{γ:Cx}(h:bx σ γ){f:FuncId}{args:List AV}{argv:Array Value}(aP:argv.size=args.length)(K3:∀ (j:Nat) d,args[j]?=some d->aw σ.aa γ.w γ.Z γ.blk d (argv.getD j Go.undef)){K:AV->St->Prop}(hc:KZ P f args σ K):
  Calls P f argv γ.w (λe w'=>∃ cv v σ' aA,e=.returned cv/\aA.w=w'/\aA.tmps=γ.tmps/\bx σ' aA/\Fr σ.aa γ σ'.aa aA/\aw σ'.aa aA.w aA.Z aA.blk v cv/\K v σ'/\σ'.env=σ.env):=by
 obtain⟨aj,snap,dL,bY,iF,hH,⟨bV,bK,vn,lI,oI⟩,hKP⟩:=hc;have lX:∀ i∈aj,i<σ.aa.length:=by
  intro i hi;obtain⟨j,hj,rfl⟩:=Hf hi;have:j<bY.length:=GK;exact(aV.1 (vn j bY[j] (by simp[this]))).1
 let ρ:=bq σ.aa.length aj
 let S:Nat->Prop:=λb=>snap=true/\∃ id o cap,id ∉ aj/\Live σ.aa id/\γ.blk id=some (b,o,cap)
 let γc:Cx:={ w:=γ.w,tmps:=argv,Z:=λb=>γ.Z b\/S b,blk:=λj=>if j<aj.length then γ.blk (aj.getD j 0) else none }
 have x9:∀ j x,σ.aa[ρ j]?=some x->∃ o,bY[j]?=some o/\(o=.gone\/(x=bM ρ o/\γc.blk j=γ.blk (ρ j))):=by
  intro j x hx;obtain⟨hj,hr⟩:=RS lX (aV.1 hx).1;have nk:j<bY.length:=GK;have:=vn j bY[j] (by simp[nk]);refine⟨bY[j],by simp[nk],.inr ⟨?_,?_⟩⟩
  ·have b6:σ.aa[bq σ.aa.length aj j]?=some x:=hx;rw[hr,this]at b6;simpa using b6.symm
  ·show(if j<aj.length then γ.blk (aj.getD j 0) else none)=γ.blk (bq σ.aa.length aj j);rw[if_pos hj,hr]
 have jI:∀ b,γ.Z b->γc.Z b:=λb hb=>.inl hb;have wO:∀ j,Live bY j->Live σ.aa (aj.getD j 0)/\j<aj.length:=by
  rintro j⟨o,ho,hg⟩;have hj:=(aV.1 ho).1;exact⟨⟨_,vn j o ho,λe=>hg (Eb.1 e)⟩,GK⟩
 have ya:=λ{i b o c}=>h.blt (i:=i) (b:=b) (o:=o) (c:=c);have K4:bx ⟨λk=>dL.getD k .undef,bY⟩ γc:=by
  refine⟨λk=>?_,?_,?_,?_,?_,λg=>zm (h.gl g) λb hb=>⟨jI b hb,rfl⟩⟩
  ·rcases dP k dL.length with hk|hk
   ·have e:dL.getD k .undef=dL[k]:=by simp[hk]
    show aw bY γc.w γc.Z γc.blk (dL.getD k .undef) _;rw[e];have oO:k<args.length:=GK;exact(oI k dL[k] args[k] (by simp[hk]) (by simp[oO])).rel h jI rfl (λhs id b o cap bX hl hb=>.inr ⟨hs,id,o,cap,bX,hl,hb⟩) x9 _ (K3 k _ (by simp[oO]))
   ·have e:dL.getD k .undef=.undef:=by simp[hk]
    show aw bY γc.w γc.Z γc.blk (dL.getD k .undef) _;rw[e];exact .undef _
  ·intro j o ho;have hj:=(aV.1 ho).1;have Ee:j<aj.length:=by rw[<- bK];exact hj
   have bP:=h.dT _ _ (vn j o ho);have hb:γc.blk j=γ.blk (aj.getD j 0):=by show(if j<aj.length then _ else _)=_;rw[if_pos Ee]
   cases o with
   |gone=>trivial
   |var cells =>
    obtain⟨b,cap,cur,t,h1,h2,h3,h4⟩:=bP;exact⟨b,cap,cur,t,hb.trans h1,h2,by simpa using h3,λc v hv=>(h4 c (bk ρ v) (by simp[hv];rfl)).down jI x9 v rfl⟩
   |mp ag L =>
    obtain⟨b,f,h1,h2,h3,h4⟩:=bP;refine⟨b,f,hb.trans h1,?_,λp hp=>h3 (p.1,bk ρ p.2) (DT (f:=λp:List Int×AV=>(p.1,bk ρ p.2)) hp),λj p hp=>(h4 j (p.1,bk ρ p.2) (by simp only[bI,hp];rfl)).down jI x9 p.2 rfl⟩;rw[K5,fK]at h2;exact h2
   |arr sz rows =>
    obtain⟨h0,hr,bP⟩:=bP;refine⟨h0,λrow bL=>by simpa using hr (row.map (bk ρ)) (DT bL),?_⟩;rcases bP with⟨h1,h2⟩|⟨b,o,cap,cur,t,h1,h2,h3,h4,h5,h6⟩
    ·exact .inl ⟨hb.trans h1,by simpa using h2⟩
    ·refine .inr ⟨b,o,cap,cur,t,hb.trans h1,h2,h3,by simpa using h4,h5,λr c v hv=>(h6 r c (bk ρ v) ?_).down jI x9 v rfl⟩;simp only[cellAt,bI]at hv ⊢;cases gX:rows[r]? with
     |none=>simp[gX]at hv
     |some row=>simp[gX]at hv ⊢;exact⟨v,hv,rfl⟩
  ·intro i j b o c o' c' hi hj gF iu;obtain⟨h1,h2⟩:=wO i hi;obtain⟨h3,h4⟩:=wO j hj;have e1:γc.blk i=γ.blk (aj.getD i 0):=by show(if i<aj.length then _ else _)=_;rw[if_pos h2]
   have e2:γc.blk j=γ.blk (aj.getD j 0):=by show(if j<aj.length then _ else _)=_;rw[if_pos h4]
   exact RT bV h2 h4 (h.inj _ _ b o c o' c' h1 h3 (e1▸gF) (e2▸iu))
  ·rintro b ⟨i,o,c,hi,hb⟩ hz;obtain⟨h1,h2⟩:=wO i hi;have e1:γc.blk i=γ.blk (aj.getD i 0):=by show(if i<aj.length then _ else _)=_;rw[if_pos h2]
   rw[e1]at hb;rcases hz with hz|⟨_,id,o',cap',bX,hl,a6⟩
   ·exact h.nz b ⟨_,o,c,h1,hb⟩ hz
   ·have:=h.inj _ _ b o c o' cap' h1 hl hb a6;exact bX (this▸aF h2)
  ·rintro b (hb|⟨_,id,o,cap,_,hl,hb⟩)
   ·exact h.gG b hb
   ·exact ya hl hb
 have pz:=hH.2 γc (by show argv.size=_;omega) K4;refine pz.mono ?_;rintro e w'⟨res,db,cv,aA,K6,rfl,rfl,Kw,iO,fF⟩;obtain⟨RV,hK⟩:=hKP res db K6;have ae0:aj.length<=db.length:=by have:=fF.len;omega
 let new:=db.map (bM ρ)
 have ak:aj.length<=new.length:=by simpa [new] using ae0
 let qm:=e8 σ.aa aj new
 let jJ:Cx:={ w:=aA.w,tmps:=γ.tmps,Z:=λb=>aA.Z b/\¬ S b,blk:=λi=>if i<σ.aa.length then γ.blk i else aA.blk (aj.length+(i-σ.aa.length)) }
 have oP:∀ j o,db[j]?=some o->qm[ρ j]?=some (bM ρ o)/\(o≠.gone->jJ.blk (ρ j)=aA.blk j):=by
  intro j o ho;by_cases hj:j<aj.length
  ·have e:ρ j=aj.getD j 0:=by show bq _ _ _=_;simp only[bq];rw[if_pos hj]
   have bR:=lX _ (aF hj);refine⟨?_,λhg=>?_⟩
   ·rw[e];show(e8 σ.aa aj new)[aj.getD j 0]?=_;rw[G8 aj σ.aa new ak bV lX j hj];simp[new,ho]
   ·rw[e];show(if aj.getD j 0<σ.aa.length then _ else _)=_;rw[if_pos bR];have:=(fF.eA j GK ⟨o,ho,hg⟩).1;rw[this];show _=if j<aj.length then _ else _;rw[if_pos hj]
  ·have e:ρ j=σ.aa.length+(j-aj.length):=by show bq _ _ _=_;simp only[bq];rw[if_neg hj]
   have e2:aj.length+(j-aj.length)=j:=GK;refine⟨?_,λhg=>?_⟩
   ·rw[e];show(e8 σ.aa aj new)[_]?=_;rw[RB aj σ.aa new ak,e2];simp[new,ho]
   ·rw[e];show(if σ.aa.length+(j-aj.length)<σ.aa.length then _ else aA.blk (aj.length+(σ.aa.length+(j-aj.length)-σ.aa.length)))=_;rw[if_neg GK];congr 1;omega
 have RW:∀ b,S b->¬ γ.Z b:=by
  rintro b⟨_,id,o,cap,_,hl,hb⟩;exact h.nz b ⟨id,o,cap,hl,hb⟩
 have Cy:∀ b,pA bY γc.blk b->∃ i∈aj,∃ o cap,Live σ.aa i/\γ.blk i=some (b,o,cap):=by
  rintro b⟨j,o,c,hl,hb⟩;obtain⟨h1,h2⟩:=wO j hl;have e1:γc.blk j=γ.blk (aj.getD j 0):=by show(if j<aj.length then _ else _)=_;rw[if_pos h2]
  exact⟨_,aF h2,o,c,h1,e1▸hb⟩
 have K7:∀ i,i ∉ aj->Live σ.aa i->∀ b o c,γ.blk i=some (b,o,c)->aA.w.heap[b]?=γ.w.heap[b]?:=by
  intro i hi hl b o c hb;refine fF.ek b (ya hl hb) (λho=>?_);obtain⟨i',ar,o',c',kf,a6⟩:=Cy b ho;have:=h.inj _ _ b o c o' c' hl kf hb a6;exact hi (this▸ar)
 have K8:∀ v cv,aw σ.aa γ.w γ.Z γ.blk v cv->aw qm jJ.w jJ.Z jJ.blk v cv:=by
  intro v cv hv;refine hv.mono (λb hb=>⟨⟨fF.z0 b (jI b hb),λhs=>RW b hs hb⟩,?_⟩) (λi o ho=>?_)
  ·refine fF.ek b (h.gG b hb) (λho=>?_);obtain⟨i',_,o',c',kf,a6⟩:=Cy b ho;exact h.nz b ⟨i',o',c',kf,a6⟩ hb
  ·have hi:=(aV.1 ho).1;have gq:jJ.blk i=γ.blk i:=by show(if i<σ.aa.length then _ else _)=_;rw[if_pos hi]
   by_cases oQ:i∈aj
   ·obtain⟨j,hj,rfl⟩:=Hf oQ;have nk:j<db.length:=GK;have AQ:qm[aj.getD j 0]?=some (bM ρ db[j]):=by
     show(e8 σ.aa aj new)[aj.getD j 0]?=_;rw[G8 aj σ.aa new ak bV lX j hj];simp[new,nk]
    by_cases hg:db[j]=.gone
    ·left;rw[AQ,hg];rfl
    ·right;refine⟨gq,_,AQ,?_⟩;obtain⟨_,x,x',hx,b6,gr⟩:=fF.eA j GK ⟨db[j],by simp[nk],hg⟩;have e1:db[j]=x':=by simpa [nk] using b6
     have e2:=vn j x hx;rw[ho]at e2;simp at e2;rw[e1,e2];exact Ob.aeW gr
   ·have AQ:qm[i]?=some o:=by
     show(e8 σ.aa aj new)[i]?=_;rw[Hd aj σ.aa new ak i oQ hi];exact ho
    by_cases hg:o=.gone
    ·subst hg;exact .inl AQ
    ·exact .inr ⟨gq,o,AQ,Ob.jK hg⟩
 have Hg:∀ v cv,aw db aA.w aA.Z aA.blk v cv->(snap=true->flat v=true)->aw qm jJ.w jJ.Z jJ.blk (bk ρ v) cv:=by
  intro v cv hv iP;by_cases fc:snap=true
  ·exact(hv.aeV (Z':=jJ.Z) (iP fc)).up (λb hb=>hb) oP
  ·exact hv.up (λb hb=>⟨hb,λhs=>fc hs.1⟩) oP
 have re:∀ i,Live qm i->(i<σ.aa.length/\i ∉ aj/\Live σ.aa i/\jJ.blk i=γ.blk i)\/∃ j,Live db j/\i=ρ j/\jJ.blk i=aA.blk j:=by
  rintro i⟨o,ho,hg⟩;have hlen:=(aV.1 ho).1;have Cs:qm.length=σ.aa.length+(new.length-aj.length):=KP aj σ.aa new ak;have Hh:new.length=db.length:=by simp[new]
  rcases dP i σ.aa.length with hi|hi
  ·by_cases oQ:i∈aj
   ·right;obtain⟨j,hj,rfl⟩:=Hf oQ;have nk:j<db.length:=GK;have e:ρ j=aj.getD j 0:=by show bq _ _ _=_;simp only[bq];rw[if_pos hj]
    have hx:=oP j db[j] (by simp[nk]);rw[e]at hx;rw[ho]at hx;simp only[cA.injEq]at hx;have tX:db[j]≠.gone:=by intro h0;apply hg;rw[hx.1,h0];rfl
    exact⟨j,⟨_,by simp[nk],tX⟩,e.symm,hx.2 tX⟩
   ·left;have:qm[i]?=σ.aa[i]?:=Hd aj σ.aa new ak i oQ hi;rw[this]at ho;exact⟨hi,oQ,⟨o,ho,hg⟩,by show(if i<σ.aa.length then _ else _)=_;rw[if_pos hi]⟩
  ·right;have nk:aj.length+(i-σ.aa.length)<db.length:=GK;have e:ρ (aj.length+(i-σ.aa.length))=i:=by
    show bq _ _ _=_;simp only[bq];rw[if_neg GK];omega
   have hx:=oP _ _ (show db[aj.length+(i-σ.aa.length)]?=some db[aj.length+(i-σ.aa.length)] by simp[nk]);rw[e]at hx;rw[ho]at hx;simp only[cA.injEq]at hx;have tX:db[aj.length+(i-σ.aa.length)]≠.gone:=by intro h0;apply hg;rw[hx.1,h0];rfl
   exact⟨_,⟨_,by simp[nk],tX⟩,e.symm,hx.2 tX⟩
 have K9:∀ j b o c,Live db j->aA.blk j=some (b,o,c)->(∃ i∈aj,∃ o cap,Live σ.aa i/\γ.blk i=some (b,o,cap))\/γ.w.heap.size<=b:=by
  intro j b o c hl hb;rcases fF.own b ⟨j,o,c,hl,hb⟩ with h1|h1
  ·exact .inl (Cy b h1)
  ·exact .inr h1
 have ae1:bx ⟨σ.env,qm⟩ jJ:=by
  refine⟨λk=>K8 _ _ (h.ao k),?_,?_,?_,?_,λg=>K8 _ _ (h.gl g)⟩
  ·intro i o ho;by_cases bG:o=.gone
   ·subst bG;trivial
   rcases re i ⟨o,ho,bG⟩ with⟨hi,oQ,hl,gq⟩|⟨j,⟨x,hx,eS⟩,rfl,gq⟩
   ·have he:qm[i]?=σ.aa[i]?:=Hd aj σ.aa new ak i oQ hi;have cm:σ.aa[i]?=some o:=by rw[<- he];exact ho
    exact(h.dT i o cm).mono K8 gq (λb o c hb=>K7 i oQ hl b o c hb)
   ·have AR:=(oP j x hx).1;have e:o=bM ρ x:=by
     have:qm[ρ j]?=some o:=ho;rw[AR]at this;simpa using this.symm
    subst e;have bP:=iO.dT j x hx;have iP:snap=true->D6 x:=λhs=>(RV hs).2 x (gI hx);cases x with
    |gone=>trivial
    |var cells =>
     obtain⟨b,cap,cur,t,h1,h2,h3,h4⟩:=bP;refine⟨b,cap,cur,t,gq.trans h1,h2,by simpa using h3,λc v hv=>?_⟩;simp only[bI,wq]at hv;obtain⟨y,hy,rfl⟩:=hv;exact Hg _ _ (h4 c y hy) (λhs=>iP hs y (gI hy))
    |mp ag L =>
     obtain⟨b,f,h1,h2,h3,h4⟩:=bP;refine⟨b,f,gq.trans h1,?_,λp hp=>?_,λj p hp=>?_⟩
     ·rw[K5,fK];exact h2
     ·obtain⟨y,hy,rfl⟩:=bW.1 hp;exact h3 y hy
     ·simp only[bI,wq]at hp;obtain⟨y,hy,rfl⟩:=hp;exact Hg _ _ (h4 j y hy) (λhs=>iP hs y (gI hy))
    |arr sz rows =>
     obtain⟨h0,hr,bP⟩:=bP;refine⟨h0,?_,?_⟩
     ·intro row bL;simp only[bW]at bL;obtain⟨y,hy,rfl⟩:=bL;simpa using hr y hy
     ·rcases bP with⟨h1,h2⟩|⟨b,o,cap,cur,t,h1,h2,h3,h4,h5,h6⟩
      ·exact .inl ⟨gq.trans h1,by simpa using h2⟩
      ·refine .inr ⟨b,o,cap,cur,t,gq.trans h1,h2,h3,by simpa using h4,h5,λr c v hv=>?_⟩;simp only[cellAt,bI]at hv;cases gX:rows[r]? with
       |none=>simp[gX]at hv
       |some row =>
        simp only[gX,eH,Option.bind_some,bI,wq]at hv;obtain⟨y,hy,rfl⟩:=hv;exact Hg _ _ (h6 r c y (by simp[cellAt,gX,hy])) (λhs=>iP hs row (gI gX) y (gI hy))
  ·intro i j b o c o' c' hi hj gF iu;rcases re i hi with⟨lY,oQ,lZ,gq⟩|⟨ji,iG,rfl,gq⟩<;>rcases re j hj with⟨gu,Ee,tY,Ef⟩|⟨jj,RX,rfl,Ef⟩
   ·exact h.inj i j b o c o' c' lZ tY (gq▸gF) (Ef▸iu)
   ·rw[gq]at gF;rw[Ef]at iu;rcases K9 jj b o' c' RX iu with⟨i',ar,o1,c1,kf,a6⟩|gd
    ·exact absurd (h.inj i i' b o c o1 c1 lZ kf gF a6) (λe=>oQ (e▸ar))
    ·have:=ya lZ gF;omega
   ·rw[gq]at gF;rw[Ef]at iu;rcases K9 ji b o c iG gF with⟨i',ar,o1,c1,kf,a6⟩|gd
    ·exact absurd (h.inj j i' b o' c' o1 c1 tY kf iu a6) (λe=>Ee (e▸ar))
    ·have:=ya tY iu;omega
   ·rw[gq]at gF;rw[Ef]at iu;rw[iO.inj ji jj b o c o' c' iG RX gF iu]
  ·rintro b ⟨i,o,c,hi,hb⟩ ⟨hz,zn⟩;rcases re i hi with⟨lY,oQ,lZ,gq⟩|⟨ji,iG,rfl,gq⟩
   ·rw[gq]at hb;rcases fF.z1 b hz with(h1|h1)|h1|h1
    ·exact h.nz b ⟨i,o,c,lZ,hb⟩ h1
    ·exact zn h1
    ·obtain⟨i',ar,o1,c1,kf,a6⟩:=Cy b h1;exact oQ ((h.inj i i' b o c o1 c1 lZ kf hb a6)▸ar)
    ·have:=ya lZ hb;have K':γ.w.heap.size<=b:=h1;omega
   ·rw[gq]at hb;exact iO.nz b ⟨ji,o,c,iG,hb⟩ hz
  ·rintro b ⟨hz,_⟩;exact iO.gG b hz
 refine⟨cv,bk ρ res,⟨σ.env,qm⟩,jJ,rfl,rfl,rfl,ae1,?_,?_,hK,rfl⟩
 ·refine⟨fF.lF,fF.tape,fF.output,fF.size,?_,?_,?_,?_,?_,?_,fF.drawn⟩
  ·intro b hb kE;refine fF.ek b hb (λho=>kE ?_);obtain⟨i',_,o1,c1,kf,a6⟩:=Cy b ho;exact⟨i',o1,c1,kf,a6⟩
  ·intro b hb;exact⟨fF.z0 b (jI b hb),λhs=>RW b hs hb⟩
  ·rintro b ⟨hz,zn⟩;rcases fF.z1 b hz with(h1|h1)|h1|h1
   ·exact .inl h1
   ·exact absurd h1 zn
   ·obtain⟨i',_,o1,c1,kf,a6⟩:=Cy b h1;exact .inr (.inl ⟨i',o1,c1,kf,a6⟩)
   ·exact .inr (.inr h1)
  ·rintro b ⟨i,o,c,hi,hb⟩;rcases re i hi with⟨lY,oQ,lZ,gq⟩|⟨ji,iG,rfl,gq⟩
   ·rw[gq]at hb;exact .inl ⟨i,o,c,lZ,hb⟩
   ·rw[gq]at hb;rcases K9 ji b o c iG hb with⟨i',_,o1,c1,kf,a6⟩|gd
    ·exact .inl ⟨i',o1,c1,kf,a6⟩
    ·exact .inr gd
  ·show σ.aa.length<=(e8 σ.aa aj new).length;rw[KP aj σ.aa new ak];omega
  ·rintro i hi ⟨o,ho,hg⟩;refine⟨by show(if i<σ.aa.length then _ else _)=_;rw[if_pos hi],?_⟩;by_cases oQ:i∈aj
   ·obtain⟨j,hj,rfl⟩:=Hf oQ;have nk:j<db.length:=GK;have AQ:qm[aj.getD j 0]?=some (bM ρ db[j]):=by
     show(e8 σ.aa aj new)[aj.getD j 0]?=_;rw[G8 aj σ.aa new ak bV lX j hj];simp[new,nk]
    have dt:qm[aj.getD j 0]?=some o:=ho;rw[AQ]at dt;simp only[cA.injEq]at dt;have tX:db[j]≠.gone:=by intro h0;apply hg;rw[<- dt,h0];rfl
    obtain⟨_,x,x',hx,b6,gr⟩:=fF.eA j GK ⟨db[j],by simp[nk],tX⟩;have e1:db[j]=x':=by simpa [nk] using b6
    refine⟨bM ρ x,o,vn j x hx,ho,?_⟩;rw[<- dt,e1];cases x<;>cases x'<;>simp_all [Ob.ej,bM]
   ·have he:qm[i]?=σ.aa[i]?:=Hd aj σ.aa new ak i oQ hi;have cm:σ.aa[i]?=some o:=by rw[<- he];exact ho
    exact⟨o,o,cm,ho,Ob.jK hg⟩
 ·have:=iO.ao 0;rw[Kw]at this;exact Hg res cv (by simpa using this) (λhs=>(RV hs).1)
def Holds.r{f:FuncId}{args:List AV}{aa:List Ob}{res:AV}{bn:List Ob}(h:Holds P f args aa res bn):cX P f args aa (λr os=>r=res/\os=bn) :=
 ⟨h.1,λγ aP hs=>(h.2 γ aP hs).mono λ_ _ ⟨cv,aA,h1,h2,h3,h4,h5⟩=>⟨res,bn,cv,aA,⟨rfl,rfl⟩,h1,h2,h3,h4,h5⟩⟩
def He.r{f:FuncId}{args:List AV}{σ:St}{K:AV->St->Prop}(h:He P f args σ K):KZ P f args σ K:=by
 obtain⟨aj,snap,dL,bY,res,db,h1,⟨h2,h3,h4,h5,h6,h7⟩,h8⟩:=h;exact⟨aj,snap,dL,bY,_,h1.r,⟨h2,h3,h4,h5,h6⟩,λr os ⟨e1,e2⟩=>by subst e1;subst e2;exact⟨h7,h8⟩⟩
def RY{σ:St}{γ:Cx}(h:bx σ γ){f:FuncId}{args:List AV}{argv:Array Value}(aP:argv.size=args.length)(K3:∀ (j:Nat) d,args[j]?=some d->aw σ.aa γ.w γ.Z γ.blk d (argv.getD j Go.undef)){K:AV->St->Prop}(hc:He P f args σ K):
  Calls P f argv γ.w (λe w'=>∃ cv v σ' aA,e=.returned cv/\aA.w=w'/\aA.tmps=γ.tmps/\bx σ' aA/\Fr σ.aa γ σ'.aa aA/\aw σ'.aa aA.w aA.Z aA.blk v cv/\K v σ'/\σ'.env=σ.env) :=
 RU h aP K3 hc.r
end Go.Am
namespace Go.Am
variable {P:Program}
def bx.select{σ:St}{γ:Cx}(h:bx σ γ)(aj:List Nat)(snap:Bool)(bY:List Ob)(bV:aj.Nodup)(bK:bY.length=aj.length)(vn:∀ (j:Nat) o,bY[j]?=some o->o=.gone\/σ.aa[aj.getD j 0]?=some (bM (bq σ.aa.length aj) o))(lX:∀ i∈aj,i<σ.aa.length)(e:Nat->AV)(tm:Array Value)(he:∀ k,e k=.undef\/∃ d,aZ σ (λid=>∃ j,j<aj.length/\aj.getD j 0=id/\bY[j]?≠some .gone) (bq σ.aa.length aj) snap (e k) d/\aw σ.aa γ.w γ.Z γ.blk d (tm.getD k Go.undef)):
  ∃ aA,aA.w=γ.w/\aA.tmps=tm/\bx ⟨e,bY⟩ aA/\((∀ i,i<bY.length->aA.blk i=γ.blk (aj.getD i 0))/\(∀ b,γ.Z b->aA.Z b)/\(∀ b,aA.Z b->γ.Z b\/pA σ.aa γ.blk b) /\
   ∀ i,Live bY i->Live σ.aa (aj.getD i 0)/\∃ o,bY[i]?=some o/\σ.aa[aj.getD i 0]?=some (bM (bq σ.aa.length aj) o)):=by
 let ρ:=bq σ.aa.length aj
 let kp:Nat->Prop:=λid=>∃ j,j<aj.length/\aj.getD j 0=id/\bY[j]?≠some .gone
 let S:Nat->Prop:=λb=>snap=true/\∃ id o cap,¬ kp id/\Live σ.aa id/\γ.blk id=some (b,o,cap)
 let γc:Cx:={ w:=γ.w,tmps:=tm,Z:=λb=>γ.Z b\/S b,blk:=λj=>if j<aj.length then γ.blk (aj.getD j 0) else none }
 have x9:∀ j x,σ.aa[ρ j]?=some x->∃ o,bY[j]?=some o/\(o=.gone\/(x=bM ρ o/\γc.blk j=γ.blk (ρ j))):=by
  intro j x hx;obtain⟨hj,hr⟩:=RS lX (aV.1 hx).1;have nk:j<bY.length:=GK;refine⟨bY[j],by simp[nk],?_⟩;rcases vn j bY[j] (by simp[nk]) with hg|this
  ·exact .inl hg
  ·right;refine⟨?_,?_⟩
   ·have b6:σ.aa[bq σ.aa.length aj j]?=some x:=hx;rw[hr,this]at b6;simpa using b6.symm
   ·show(if j<aj.length then γ.blk (aj.getD j 0) else none)=γ.blk (bq σ.aa.length aj j);rw[if_pos hj,hr]
 have jI:∀ b,γ.Z b->γc.Z b:=λb hb=>.inl hb;have wO:∀ j,Live bY j->Live σ.aa (aj.getD j 0)/\j<aj.length/\kp (aj.getD j 0)/\∃ o,bY[j]?=some o/\σ.aa[aj.getD j 0]?=some (bM ρ o):=by
  rintro j⟨o,ho,hg⟩;have hj:=(aV.1 ho).1;rcases vn j o ho with h'|h'
  ·exact absurd h' hg
  ·exact⟨⟨_,h',λe=>hg (Eb.1 e)⟩,GK,⟨j,GK,rfl,by rw[ho];simpa using hg⟩,o,ho,h'⟩
 have sL:∀ j,j<aj.length->γc.blk j=γ.blk (aj.getD j 0):=λj hj=>by show(if j<aj.length then _ else _)=_;rw[if_pos hj]
 have K4:bx ⟨e,bY⟩ γc:=by
  refine⟨λk=>?_,?_,?_,?_,?_,λg=>zm (h.gl g) λb hb=>⟨jI b hb,rfl⟩⟩
  ·rcases he k with h0|⟨d,hd,hr⟩
   ·show aw bY γc.w γc.Z γc.blk (e k) _;rw[h0];exact .undef _
   ·exact hd.rel h jI rfl (λhs id b o cap bX hl hb=>.inr ⟨hs,id,o,cap,bX,hl,hb⟩) x9 _ hr
  ·intro j o ho;by_cases bG:o=.gone
   ·subst bG;trivial
   obtain⟨_,Ee,_,o',cm,ae2⟩:=wO j ⟨o,ho,bG⟩;have:o=o':=by
    have h1:bY[j]?=some o:=ho;rw[cm]at h1;simpa using h1.symm
   subst this;have bP:=h.dT _ _ ae2;have hb:=sL j Ee;cases o with
   |gone=>trivial
   |var cells =>
    obtain⟨b,cap,cur,t,h1,h2,h3,h4⟩:=bP;exact⟨b,cap,cur,t,hb.trans h1,h2,by simpa using h3,λc v hv=>(h4 c (bk ρ v) (by simp only[bI,hv];rfl)).down jI x9 v rfl⟩
   |mp ag L =>
    obtain⟨b,f,h1,h2,h3,h4⟩:=bP;refine⟨b,f,hb.trans h1,?_,λp hp=>h3 (p.1,bk ρ p.2) (DT (f:=λp:List Int×AV=>(p.1,bk ρ p.2)) hp),λj p hp=>(h4 j (p.1,bk ρ p.2) (by simp only[bI,hp];rfl)).down jI x9 p.2 rfl⟩;rw[K5,fK]at h2;exact h2
   |arr sz rows =>
    obtain⟨h0,hr,bP⟩:=bP;refine⟨h0,λrow bL=>by simpa using hr (row.map (bk ρ)) (DT bL),?_⟩;rcases bP with⟨h1,h2⟩|⟨b,o,cap,cur,t,h1,h2,h3,h4,h5,h6⟩
    ·exact .inl ⟨hb.trans h1,by simpa using h2⟩
    ·refine .inr ⟨b,o,cap,cur,t,hb.trans h1,h2,h3,by simpa using h4,h5,λr c v hv=>(h6 r c (bk ρ v) ?_).down jI x9 v rfl⟩;simp only[cellAt,bI]at hv ⊢;cases gX:rows[r]? with
     |none=>simp[gX]at hv
     |some row=>simp[gX]at hv ⊢;exact⟨v,hv,rfl⟩
  ·intro i j b o c o' c' hi hj gF iu;obtain⟨h1,h2,_⟩:=wO i hi;obtain⟨h3,h4,_⟩:=wO j hj;exact RT bV h2 h4 (h.inj _ _ b o c o' c' h1 h3 (sL i h2▸gF) (sL j h4▸iu))
  ·rintro b ⟨i,o,c,hi,hb⟩ hz;obtain⟨h1,h2,h3,_⟩:=wO i hi;rw[sL i h2]at hb;rcases hz with hz|⟨_,id,o',cap',bX,hl,a6⟩
   ·exact h.nz b ⟨_,o,c,h1,hb⟩ hz
   ·have:=h.inj _ _ b o c o' cap' h1 hl hb a6;exact bX (this▸h3)
  ·rintro b (hb|⟨_,id,o,cap,_,hl,hb⟩)
   ·exact h.gG b hb
   ·exact h.blt hl hb
 refine⟨γc,rfl,rfl,K4,λi hi=>sL i GK,jI,?_,?_⟩
 ·rintro b (hb|⟨_,id,o,cap,_,hl,hb⟩)
  ·exact .inl hb
  ·exact .inr ⟨id,o,cap,hl,hb⟩
 ·intro i hi;obtain⟨h1,h2,_,h4⟩:=wO i hi;exact⟨h1,h4⟩
def Ob.ae3{ρ:Nat->Nat}{x o:Ob}(h:x.ej (bM ρ o)):x.ej o:=by
 cases x<;>cases o<;>simp[Ob.ej,bM]at h ⊢<;>exact h
def Fr.select{os:List Ob}{γ0 γ aA:Cx}{σ:St}(hf:Fr os γ0 σ.aa γ){aj:List Nat}{bY:List Ob}(hn:os.length<=aj.length)(bK:bY.length=aj.length)(bX:∀ i,i<os.length->aj.getD i 0=i)(hw:aA.w=γ.w)(h:(∀ i,i<bY.length->aA.blk i=γ.blk (aj.getD i 0))/\(∀ b,γ.Z b->aA.Z b)/\(∀ b,aA.Z b->γ.Z b\/pA σ.aa γ.blk b) /\
   ∀ i,Live bY i->Live σ.aa (aj.getD i 0)/\∃ o,bY[i]?=some o/\σ.aa[aj.getD i 0]?=some (bM (bq σ.aa.length aj) o)):Fr os γ0 bY aA:=by
 obtain⟨h1,h2,h3,h4⟩:=h;refine⟨by rw[hw];exact hf.lF,by rw[hw];exact hf.tape,by rw[hw];exact hf.output,by rw[hw];exact hf.size,by rw[hw];exact hf.ek,λb hb=>h2 b (hf.z0 b hb),?_,?_,GK,?_,by rw[hw];exact hf.drawn⟩
 ·intro b hb;rcases h3 b hb with h|h
  ·exact hf.z1 b h
  ·rcases hf.own b h with h|h
   ·exact .inr (.inl h)
   ·exact .inr (.inr h)
 ·rintro b ⟨i,o,c,hi,hb⟩;have aX:=hi.lt;rw[h1 i aX]at hb;exact hf.own b ⟨_,o,c,(h4 i hi).1,hb⟩
 ·intro i hi hl;obtain⟨h5,o,ho,cm⟩:=h4 i hl;rw[bX i hi]at h5 cm;obtain⟨h6,x,x',hx,b6,hk⟩:=hf.eA i hi h5;refine⟨by rw[h1 i hl.lt,bX i hi];exact h6,x,o,hx,ho,?_⟩;rw[cm]at b6;simp only[cA.injEq]at b6;rw[<- b6]at hk;exact Ob.ae3 hk
def fX(N:Nat)(os:List Ob)(γ0:Cx)(σ:St)(a:Act)(w:World):Prop :=
 a.defers=[]/\a.tmps.size=N/\∃ γ,γ.w=w/\γ.tmps=a.tmps/\bx σ γ/\Fr os γ0 σ.aa γ
def W(P:Program)(N n0:Nat)(c:Code)(Q:Exit->St->Prop)(σ:St):Prop :=
 ∀ (os:List Ob) (γ0:Cx) (a:Act) (w:World),os.length=n0->fX N os γ0 σ a w->c.wp P (λe a' w'=>∃ σ',Q e σ'/\fX N os γ0 σ' a' w') a w
def tP(P:Program)(g:FuncId)(args:List AV)(dst:Option Tmp)(K:St->Prop)(σ:St):Prop:=He P g args σ λv σ'=>K (σ'.put dst v)
def GY(P:Program)(t:TypeId)(m:String):Option (FuncId×Option TypeId) :=
 match P.info? t with
 |none=>none
 |some i =>
  match i.methods.find? (·.name==m) with
  |none=>none
  |some r =>
   match r.path.isEmpty,r.func,P.underlying t with
   |true,some (g,pr),some (.pointer e)=>some (g,if pr then none else some e)
   |_,_,_=>none
def qf(P:Program)(σ:St)(v:AV)(K:FuncId->AV->Prop):Option (FuncId×Option TypeId)->Prop
 |some (g,none)=>K g v
 |some (g,some e) =>
  (ty P e).kind≠99 /\
  match v with
  |.ptr id r c =>
   match rowOf σ id r with
   |some row=>nh (ty P e) row c λx=>K g x
   |none=>False
  |_=>False
 |none=>False
def aL(P:Program)(o:Oper)(σ:St)(K:St->Prop):Prop :=
 match o.op with
 |.call { callee:=.value f,args,.. } =>
  match ev σ f with
  |.fn g bC=>tP P g (args.toList.map (ev σ)++bC) o.dst K σ
  |_=>False
 |.call { callee:=.invoke r m,args,.. } =>
  match ev σ r with
  |.iC t v=>qf P σ v (λg x=>tP P g (x::args.toList.map (ev σ)) o.dst K σ) (GY P t m)
  |_=>False
 |_=>cd P o σ K
def pB(P:Program)(o:Oper)(K:St->Prop)(b want:Bool)(σ:St):Prop:=(b=want->aL P o σ K)/\(b≠want->K (σ.put o.dst (.lit (.tuple #[]))))
def opsL(P:Program)(ops:Array Oper):List Oper->(St->Prop)->St->Prop
 |[],K,σ=>K σ
 |o::r,K,σ =>
  match o.guard with
  |none=>aL P o σ (opsL P ops r K)
  |some (j,want) =>
   match (ops[j]?).bind (·.dst) with
   |none=>False
   |some d =>
    match σ.env d with
    |.lit (.bool b)=>pB P o (opsL P ops r K) b want σ
    |.lit (.tuple vs)=>vs = #[]/\opsL P ops r K (σ.put o.dst (.lit (.tuple #[])))
    |_=>False
def vc(a:Act)(d:Option Tmp)(v:Value):(a.put d v).tmps.size=a.tmps.size:=by cases d<;>simp[Act.put]
def put_defers(a:Act)(d:Option Tmp)(v:Value):(a.put d v).defers=a.defers:=by cases d<;>rfl
def ae4(xt:TypeId)(a:Addr)(x y:String):Builtin.ssaWrapNilChk_ #[xt] xt #[.pointer (some a),strVal x,strVal y]=pure (.pointer (some a)):=rfl
def RZ{w:World}{t:TypeId}{i:TypeInfo}(h:P.info? t=some i):(typeInfo t).run P w=.ok i w:=by
 simp[typeInfo,h]
def ext1(x:Value)(A:Array Value):(#[x]++A).extract 1 (#[x]++A).size=A:=by
 apply Array.ext';simp only[Array.toList_extract,List.extract,B9,Array.size_append];simp[List.take_of_length_le]
def ae5{σ:St}{γ:Cx}(hs:bx σ γ){t:TypeId}{m:String}{v:AV}{cv:Value}(hv:aw σ.aa γ.w γ.Z γ.blk v cv){K:FuncId->AV->Prop}(h:qf P σ v K (GY P t m)):
  ∃ g x cx,(Go.method (P.types.size+Made.depth) t cv m).run P γ.w=.ok (g,cx) γ.w/\aw σ.aa γ.w γ.Z γ.blk x cx/\K g x:=by
 obtain⟨fu,AS⟩:∃fu,P.types.size+Made.depth=fu+1:=Nat.exists_eq_succ_of_ne_zero (by unfold Made.depth;omega);rw[AS];unfold Go.method;unfold GY at h;cases hi:P.info? t with
 |none=>simp[hi,qf]at h
 |some i =>
  simp only[hi]at h;cases hf:i.methods.find? (·.name==m) with
  |none=>simp[hf,qf]at h
  |some r =>
   simp only[hf]at h;split at h
   ·rename_i g pr e hp hr hu;have wP:r.path = #[]:=Array.isEmpty_iff.1 hp;cases pr with
    |true =>
     simp only[if_pos,qf]at h;refine⟨g,v,cv,?_,hv,h⟩;simp[RZ hi,hf,wP,follow,hr,receiverAt,run_underlying hu,Place.get]
    |false =>
     simp only[if_neg,Bool.false_eq_true,not_false_eq_true,qf]at h;obtain⟨hk,h⟩:=h;cases v with
     |ptr id rr c =>
      simp only at h;cases bL:rowOf σ id rr with
      |none=>simp[bL]at h
      |some row =>
       simp only[bL]at h;obtain⟨x,cx,h1,h2,h3⟩:=La hs hk hv bL h;refine⟨g,x,cx,?_,h2,h3⟩;obtain⟨b,base,cap,cur,tt,o,rfl,_⟩:=Hi hs hv bL;simp only[Instr.loadAt,Instr.sureAddr,Sem.run_bind,Sem.run_pure,Result.andThen_ok]at h1;simp[RZ hi,hf,wP,follow,hr,receiverAt,run_underlying hu,Place.get,ae4,asAddr,h1]
     |_=>exact h.elim
   ·exact h.elim
def xX{N:Nat}{os:List Ob}{γ0:Cx}{o:Oper}{σ:St}{K:St->Prop}(h:aL P o σ K){a:Act}{w:World}(ax:fX N os γ0 σ a w)(hd:∀ d,o.dst=some d->d<N){Q:Exit->Act->World->Prop}{next:Act->World->Prop}(hn:∀ σ' a' w',K σ'->fX N os γ0 σ' a' w'->next a' w'):o.wp P a w next Q:=by
 obtain⟨il,aP,γ,rfl,ha,hs,hf⟩:=ax;have vo:∀ d,o.dst=some d->d<a.tmps.size:=λd h=>by rw[aP];exact hd d h
 have ae6:cd P o σ K->o.wp P a γ.w next Q:=by
  intro h;obtain⟨n,x,w',σ',aA,hr,rf,hK,iO,fF,rh,ka⟩:=ae7 h hs ha vo;unfold Oper.wp;rw[hr];have cW:fX N os γ0 σ' (a.put o.dst x) w':=⟨by rw[put_defers];exact il,by rw[vc];exact aP,aA,rh,ka,iO,hf.trans fF⟩;rcases rf with rfl|⟨rfl,rfl⟩
  ·exact hn _ _ _ hK cW
  ·exact hn _ _ _ hK cW
 unfold aL at h;split at h
 ·rename_i f args cC cM;split at h
  ·rename_i g bC he;have dU:=tZ hs ha f;rw[he]at dU;obtain⟨bm,aT,gD,sM⟩:=dU.R0;have oI:∀ (j:Nat) d,(args.toList.map (ev σ)++bC)[j]?=some d->aw σ.aa γ.w γ.Z γ.blk d (((args.map a.eval)++bm).getD j Go.undef):=by
    intro j d hj;simp only[eL];rcases dP j args.size with aX|gd
    ·rw[eZ (by simpa using aX)]at hj;rw[GD (by simpa using aX)];simp only[bI,DU,PU]at hj ⊢;cases hx:args[j]? with
     |none=>simp[hx]at hj
     |some y=>simp[hx]at hj ⊢;subst hj;exact tZ hs ha y
    ·rw[iA (by simpa using gd)]at hj;rw[Array.getElem?_append_right (by simpa using gd)];simp only[fK,Array.length_toList,Array.size_map]at hj ⊢;have:=sM _ d hj;simpa [eL] using this
   unfold tP at h;have pz:=RY hs (argv:=(args.map a.eval)++bm) (by simp[gD]) oI h;obtain⟨aj,snap,dL,bY,res,db,⟨⟨fn,yb,sN,zo⟩,_⟩,_⟩:=h;unfold Oper.wp;have hr:(execOp a.eval o).run P γ.w=.ok (.enter g ((args.map a.eval)++bm)) γ.w:=by
    have mL : ¬ fn.name = "runtime.NumGoroutine" := by simpa using sN
    have nm:¬ fn.body=none:=by intro e;rw[e]at zo;simp at zo
    simp[execOp,cM,resolve,aT,Deferred.ofValue,invoke,callFunc,yb,mL,nm]
   rw[hr];show Calls P g _ _ _;refine pz.mono ?_;rintro e w'⟨cv,v,σ',aA,rfl,rfl,ka,iO,fF,hv,hK,uc⟩;refine hn _ _ _ hK ⟨by rw[put_defers];exact il,by rw[vc];exact aP,{ aA with tmps:=(a.put o.dst cv).tmps },rfl,rfl,sI iO (by rw[ka,ha]) vo hv,?_⟩;rw[qY];exact(hf.trans fF).put _
  ·exact h.elim
 ·rename_i r m args cC cM;split at h
  ·rename_i t v he;have dU:=tZ hs ha r;rw[he]at dU;obtain⟨Hj,aT,sM⟩:=dU.R2;obtain⟨g,x,cx,hm,hx,h⟩:=ae5 hs sM h;have oI:∀ (j:Nat) d,(x::args.toList.map (ev σ))[j]?=some d->aw σ.aa γ.w γ.Z γ.blk d ((#[cx]++args.map a.eval).getD j Go.undef):=by
    intro j d hj;simp only[eL];cases j with
    |zero =>
     simp only[uY,cA.injEq]at hj;subst hj;rw[GD GM];simpa using hx
    |succ j =>
     simp only[tJ,bI,DU]at hj;rw[Array.getElem?_append_right GM];simp only[List.size_toArray,dq,List.length_nil,Nat.zero_add,Nat.add_sub_cancel,PU];cases hy:args[j]? with
     |none=>simp[hy]at hj
     |some y=>simp[hy]at hj ⊢;subst hj;exact tZ hs ha y
   unfold tP at h;have pz:=RY hs (argv:=#[cx]++args.map a.eval) P2 oI h;obtain⟨aj,snap,dL,bY,res,db,⟨⟨fn,yb,sN,zo⟩,_⟩,_⟩:=h;unfold Oper.wp;have hr:(execOp a.eval o).run P γ.w=.ok (.enter g (#[cx]++args.map a.eval)) γ.w:=by
    have mL : ¬ fn.name = "runtime.NumGoroutine" := by simpa using sN
    have nm:¬ fn.body=none:=by intro e;rw[e]at zo;simp at zo
    have e0:(#[Value.iface t Hj]++args.map a.eval)[0]?=some (.iface t Hj):=by rw[GD GM];simp
    have e1:=ext1 (.iface t Hj) (args.map a.eval);have e2:(callMethod (.iface t Hj) m (args.map a.eval)).run P γ.w=.ok (.enter g (#[cx]++args.map a.eval)) γ.w:=by
     unfold callMethod;simp only[Sem.run_bind,run_program,Result.andThen_ok,hm];simp[callFunc,yb,mL,nm]
    simp only[execOp,cM,resolve,aT,pure_bind,invoke,e0,e1];exact e2
   rw[hr];show Calls P g _ _ _;refine pz.mono ?_;rintro e w'⟨cv,v,σ',aA,rfl,rfl,ka,iO,fF,hv,hK,uc⟩;refine hn _ _ _ hK ⟨by rw[put_defers];exact il,by rw[vc];exact aP,{ aA with tmps:=(a.put o.dst cv).tmps },rfl,rfl,sI iO (by rw[ka,ha]) vo hv,?_⟩;rw[qY];exact(hf.trans fF).put _
  ·exact h.elim
 ·exact ae6 h
def Eg{N:Nat}{os:List Ob}{γ0:Cx}{ops:Array Oper}(hd:∀ o∈ops.toList,∀ d,o.dst=some d->d<N){K:St->Prop}{Q:Exit->Act->World->Prop}(hQ:∀ σ' a' w',K σ'->fX N os γ0 σ' a' w'->Q .normal a' w'):∀ (l:List Oper) (i:Nat) (σ:St) (a:Act) (w:World),ops.toList.drop i=l->opsL P ops l K σ->fX N os γ0 σ a w ->
   wpOps P ops Q (List.range' i l.length) a w
 |[],i,σ,a,w,_,h,ax=>by simpa [wpOps] using hQ _ _ _ h ax
 |o::r,i,σ,a,w,hl,h,ax=>by
  have hi:ops[i]?=some o:=by
   have:(ops.toList.drop i)[0]?=some o:=by rw[hl];rfl
   simpa using this
  have hr:ops.toList.drop (i+1)=r:=by
   have:=congrArg List.tail hl;simpa [List.tail_drop] using this
  have bR:o∈ops.toList:=gI (by simpa using hi);rw[dq,List.range'_succ,wpOps_cons];unfold wpOp;simp only[hi];unfold opsL at h;cases hg:o.guard with
  |none =>
   simp only[hg]at h;have hw:Region.wanted o (yielded ops a.tmps)=true:=by simp[Region.wanted,hg]
   rw[if_pos hw];left;exact xX h ax (hd o bR) (λσ' a' w' hK cW=>Eg hd hQ r (i+1) σ' a' w' hr hK cW)
  |some jw =>
   obtain⟨j,want⟩:=jw;simp only[hg]at h;cases ep:(ops[j]?).bind (·.dst) with
   |none=>simp[ep]at h
   |some d =>
    simp only[ep]at h;split at h
    ·rename_i b he;obtain⟨il,aP,γ,rfl,ha,hs,hf⟩:=ax;have jG:=hs.ao d;rw[he,ha]at jG;have hv:=jG.cF;have hy:yielded ops a.tmps j=some b:=by
      unfold yielded;rw[ep];have:a.tmps[d]?=some (.bool b):=by
       rw[eL]at hv;cases hx:a.tmps[d]? with
       |none=>rw[hx]at hv;simp[Go.undef]at hv
       |some y=>rw[hx]at hv;simp at hv;rw[hv]
      simp[this]
     by_cases gM:b=want
     ·have hw:Region.wanted o (yielded ops a.tmps)=true:=by simp[Region.wanted,hg,hy,gM]
      rw[if_pos hw];left;exact xX (h.1 gM) ⟨il,aP,γ,rfl,ha,hs,hf⟩ (hd o bR) (λσ' a' w' hK cW=>Eg hd hQ r (i+1) σ' a' w' hr hK cW)
     ·have hw:Region.wanted o (yielded ops a.tmps)=false:=by simp[Region.wanted,hg,hy,gM]
      rw[if_neg (by rw[hw];simp)];refine Eg hd hQ r (i+1) _ _ _ hr (h.2 gM) ⟨by rw[put_defers];exact il,by rw[vc];exact aP,{ γ with tmps:=(a.put o.dst Go.undef).tmps },rfl,rfl,sI hs ha (λd h=>by rw[aP];exact hd o bR d h) (.lit _),?_⟩;rw[qY];exact hf.put _
    ·rename_i vs he;obtain⟨il,aP,γ,rfl,ha,hs,hf⟩:=ax;have jG:=hs.ao d;rw[he,ha]at jG;have hv:=jG.cF;have hy:yielded ops a.tmps j=none:=by
      unfold yielded;rw[ep];rw[eL]at hv;cases hx:a.tmps[d]? with
      |none=>simp[hx]
      |some y=>rw[hx]at hv;simp at hv;subst hv;simp[hx]
     have hw:Region.wanted o (yielded ops a.tmps)=false:=by simp[Region.wanted,hg,hy]
     rw[if_neg (by rw[hw];simp)];refine Eg hd hQ r (i+1) _ _ _ hr h.2 ⟨by rw[put_defers];exact il,by rw[vc];exact aP,{ γ with tmps:=(a.put o.dst Go.undef).tmps },rfl,rfl,sI hs ha (λd h=>by rw[aP];exact hd o bR d h) (.lit _),?_⟩;rw[qY];exact hf.put _
    ·exact h.elim
end Go.Am
namespace Go.Am
variable {P:Program} {N n0:Nat} {Q:Exit->St->Prop} {σ:St}
def R3{c:Code}{Q':Exit->St->Prop}(h:W P N n0 c Q σ)(hq:∀ e s,Q e s->Q' e s):W P N n0 c Q' σ :=
 λos γ0 a w hn ax=>wp_mono (h os γ0 a w hn ax) (λ_ _ _ ⟨σ',h1,h2⟩=>⟨σ',hq _ _ h1,h2⟩)
def R4(h:Q .normal σ):W P N n0 .skip Q σ:=λ_ _ _ _ _ ax=>wp_skip ⟨σ,h,ax⟩
def ae8{l:Nat}(h:Q .normal σ):W P N n0 (.label l) Q σ:=λ_ _ _ _ _ ax=>wp_label ⟨σ,h,ax⟩
def ae9{id:Nat}(h:Q (.exit id) σ):W P N n0 (.exit id) Q σ:=λ_ _ _ _ _ ax=>wp_exit ⟨σ,h,ax⟩
def ae'(h:Q .ret σ):W P N n0 .ret Q σ:=λ_ _ _ _ _ ax=>wp_ret ⟨σ,h,ax⟩
def afa(P:Program)(N n0:Nat)(y:Code)(Q:Exit->St->Prop):Exit->St->Prop
 |.normal,s=>W P N n0 y Q s
 |e,s=>Q e s
def G3{x y:Code}(h:W P N n0 x (afa P N n0 y Q) σ):W P N n0 (.seq x y) Q σ:=by
 intro os γ0 a w hn ax;refine wp_seq (wp_mono (h os γ0 a w hn ax) ?_);rintro e a' w'⟨σ',h1,h2⟩;cases e with
 |normal=>exact h1 os γ0 a' w' hn h2
 |exit id=>exact⟨σ',h1,h2⟩
 |goto l=>exact⟨σ',h1,h2⟩
 |ret=>exact⟨σ',h1,h2⟩
 |panic c=>exact⟨σ',h1,h2⟩
 |outgrown=>exact⟨σ',h1,h2⟩
def R5{c:Operand}{x y:Code}{t:Bool}(hc:ev σ c=.lit (.bool t))(ht:t=true->W P N n0 x Q σ)(hf:t=false->W P N n0 y Q σ):W P N n0 (.cond c x y) Q σ:=by
 intro os γ0 a w hn ax;have aT:a.eval c=.bool t:=by
  obtain⟨_,_,γ,rfl,ha,hs,_⟩:=ax;have:=tZ hs ha c;rw[hc]at this;exact this.cF
 exact wp_cond_split aT (λh=>ht h os γ0 a w hn ax) (λh=>hf h os γ0 a w hn ax)
def G6(id:Nat)(Q:Exit->St->Prop):Exit->St->Prop
 |.exit px,s=>if px=id then Q .normal s else Q (.exit px) s
 |e,s=>Q e s
def aeO{id:Nat}{c:Code}(h:W P N n0 c (G6 id Q) σ):W P N n0 (.block id c) Q σ:=by
 intro os γ0 a w hn ax;refine wp_block (wp_mono (h os γ0 a w hn ax) ?_);rintro e a' w'⟨σ',h1,h2⟩;cases e with
 |exit px =>
  simp only[G6]at h1;simp only[Exit.inBlock];split
  ·rename_i he;rw[if_pos he]at h1;exact⟨σ',h1,h2⟩
  ·rename_i he;rw[if_neg he]at h1;exact⟨σ',h1,h2⟩
 |normal=>exact⟨σ',h1,h2⟩
 |goto l=>exact⟨σ',h1,h2⟩
 |ret=>exact⟨σ',h1,h2⟩
 |panic c=>exact⟨σ',h1,h2⟩
 |outgrown=>exact⟨σ',h1,h2⟩
def fq(N:Nat)(ops:Array Oper):Bool:=ops.toList.all λo=>match o.dst with|some d=>decide (d<N)|none=>true
def oL{ops:Array Oper}(h:fq N ops=true):∀ o∈ops.toList,∀ d,o.dst=some d->d<N:=by
 intro o ho d hd;unfold fq at h;rw[fW]at h;have:=h o ho;simp[hd]at this;exact this
def RC{id:Nat}{ops:Array Oper}(hd:fq N ops=true)(h:opsL P ops ops.toList (Q .normal) σ):W P N n0 (.region id ops false) Q σ:=by
 intro os γ0 a w _ ax;refine wp_region ?_;have:=Eg (P:=P) (N:=N) (os:=os) (γ0:=γ0) (ops:=ops) (oL hd) (K:=Q .normal) (Q:=λe a' w'=>∃ σ',Q e σ'/\fX N os γ0 σ' a' w') (λσ' a' w' hK cW=>⟨σ',hK,cW⟩)
  ops.toList 0 σ a w rfl h ax
 rw[List.range_eq_range'];simpa using this
def fX.drawn{os:List Ob}{γ0:Cx}{a:Act}{w:World}(h:fX N os γ0 σ a w):fX N os γ0 σ a { w with drawn:=w.drawn+1 }:=by
 obtain⟨h1,h2,γ,rfl,h3,h4,h5⟩:=h;exact⟨h1,h2,{ γ with w:={ γ.w with drawn:=γ.w.drawn+1 } },rfl,h3,h4.Lb rfl,h5.Lb rfl rfl rfl rfl⟩
def aH(n0:Nat)(σ σ':St):Prop:=∀ (os:List Ob) (γ0 γ:Cx),os.length=n0->bx σ γ->Fr os γ0 σ.aa γ->∃ aA,aA.w=γ.w/\aA.tmps=γ.tmps/\bx σ' aA/\Fr os γ0 σ'.aa aA
def cL{c:Code}{σ':St}(h:aH n0 σ σ')(hw:W P N n0 c Q σ'):W P N n0 c Q σ:=by
 intro os γ0 a w hn ax;obtain⟨h1,h2,γ,rfl,h3,h4,h5⟩:=ax;obtain⟨aA,e1,e2,e3,e4⟩:=h os γ0 γ hn h4 h5;exact hw os γ0 a γ.w hn ⟨h1,h2,aA,e1,e2.trans h3,e3,e4⟩
def aH.forget{e:Nat->AV}(h:∀ k,e k=.undef\/e k=σ.env k):aH n0 σ ⟨e,σ.aa⟩:=by
 intro os γ0 γ _ hs hf;refine⟨γ,rfl,rfl,⟨λk=>?_,hs.dT,hs.inj,hs.nz,hs.gG,hs.gl⟩,hf⟩;rcases h k with h|h
 ·show aw _ _ _ _ (e k) _;rw[h];exact .undef _
 ·show aw _ _ _ _ (e k) _;rw[h];exact hs.ao k
def aH.select(aj:List Nat)(snap:Bool)(bY:List Ob)(e:Nat->AV)(bV:aj.Nodup)(bK:bY.length=aj.length)(vn:∀ (j:Nat) o,bY[j]?=some o->o=.gone\/σ.aa[aj.getD j 0]?=some (bM (bq σ.aa.length aj) o))(lX:∀ i∈aj,i<σ.aa.length)(hn:n0<=aj.length)(bX:∀ i,i<n0->aj.getD i 0=i)(he:∀ k,e k=.undef\/aZ σ (λid=>∃ j,j<aj.length/\aj.getD j 0=id/\bY[j]?≠some .gone) (bq σ.aa.length aj) snap (e k) (σ.env k)):aH n0 σ ⟨e,bY⟩:=by
 intro os γ0 γ Cz hs hf;obtain⟨aA,h1,h2,h3,h4⟩:=hs.select aj snap bY bV bK vn lX e γ.tmps (λk=>(he k).imp id λh=>⟨_,h,hs.ao k⟩);exact⟨aA,h1,h2,h3,hf.select GK bK (λi hi=>bX i GK) h1 h4⟩
def aH.trans{σ1 σ2:St}(h:aH n0 σ σ1)(k:aH n0 σ1 σ2):aH n0 σ σ2:=by
 intro os γ0 γ Cz hs hf;obtain⟨γ1,a1,a2,a3,a4⟩:=h os γ0 γ Cz hs hf;obtain⟨Le,b1,b2,b3,b4⟩:=k os γ0 γ1 Cz a3 a4;exact⟨Le,b1.trans a1,b2.trans a2,b3,b4⟩
def aH.nil(d sz:Nat)(h:σ.env d=.lit (.slice none 0 0))(h0:0<sz):aH n0 σ ⟨jH σ.env d (.ref σ.aa.length sz 0 0),σ.aa++[.arr sz []]⟩:=by
 intro os γ0 γ _ hs hf;have hp:=hs.AT h0;refine⟨{ γ with blk:=df γ.blk σ.aa.length none },rfl,rfl,⟨λk=>?_,hp.dT,hp.inj,hp.nz,hp.gG,hp.gl⟩,hf.trans (Fr.AT _ _ _)⟩;simp only[jH];by_cases hk:k=d
 ·subst hk;rw[if_pos rfl];have:=hs.ao k;rw[h]at this;rw[this.cF];exact .mK _ _ (List.getElem?_concat_length ..) (by simp[df])
 ·rw[if_neg hk];exact hp.ao k
def dI(σ:St)(P:Program):List ResultVar->(List AV->Prop)->Prop
 |[],K=>K []
 |.tmp t::r,K=>dI σ P r λvs=>K (σ.env t::vs)
 |.cell a t::r,K =>
  (ty P t).kind≠99 /\
  match σ.env a with
  |.ptr id rr c =>
   match rowOf σ id rr with
   |some row=>nh (ty P t) row c λv=>dI σ P r λvs=>K (v::vs)
   |none=>False
  |_=>False
def dE:List AV->AV
 |[v]=>v
 |vs=>.bD vs
def Hk{γ:Cx}(hs:bx σ γ):∀ (rs:List ResultVar) (K:List AV->Prop),dI σ P rs K ->
  ∃ vs bm,K vs/\(rs.mapM λ(r:ResultVar)=>match r with|.tmp t=>(pure (γ.tmps.getD t Go.undef):Sem Value)|.cell a t=>do loadVar t (← asAddr (γ.tmps.getD a Go.undef))).run P γ.w=.ok bm γ.w /\
   bm.length=vs.length/\vs.length=rs.length/\∀ (j:Nat) v,vs[j]?=some v->aw σ.aa γ.w γ.Z γ.blk v (bm.getD j Go.undef)
 |[],K,h=>⟨[],[],h,GM,rfl,rfl,GM⟩
 |.tmp t::r,K,h=>by
  obtain⟨vs,bm,h1,h2,h3,h4,h5⟩:=Hk hs r _ h;refine⟨_,γ.tmps.getD t Go.undef::bm,h1,?_,by simp[h3],by simp[h4],?_⟩
  ·simp only[List.mapM_cons,Sem.run_bind,Sem.run_pure,Result.andThen_ok,h2]
  ·intro j v hj;cases j with
   |zero=>simp at hj;subst hj;simpa using hs.ao t
   |succ j=>simpa using h5 j v (by simpa using hj)
 |.cell a t::r,K,h=>by
  obtain⟨hk,h⟩:=h;split at h
  ·rename_i id rr c he;have hv:=hs.ao a;rw[he]at hv;split at h
   ·rename_i row bL;obtain⟨v,cv,l1,l2,l3⟩:=La hs hk hv bL h;obtain⟨vs,bm,h1,h2,h3,h4,h5⟩:=Hk hs r _ l3;obtain⟨b,base,cap,cur,tt,o,hp,_⟩:=Hi hs hv bL;have eT:(do loadVar t (← asAddr (γ.tmps.getD a Go.undef)):Sem Value).run P γ.w=.ok cv γ.w:=by
     rw[hp]at l1 ⊢;simp only[Instr.loadAt,Instr.sureAddr,Sem.run_bind,Sem.run_pure,Result.andThen_ok]at l1;simp only[asAddr,Sem.run_bind,Sem.run_pure,Result.andThen_ok];exact l1
    refine⟨_,cv::bm,h1,?_,by simp[h3],by simp[h4],?_⟩
    ·simp only[List.mapM_cons];rw[Sem.run_bind,eT];simp only[Result.andThen_ok,Sem.run_bind,h2,Sem.run_pure]
    ·intro j x hj;cases j with
     |zero=>simp at hj;subst hj;simpa using l2
     |succ j=>simpa using h5 j x (by simpa using hj)
   ·exact h.elim
  ·exact h.elim
def oK(n0:Nat)(σ:St)(v res:AV)(bn:List Ob):Prop :=
 ∃ (aj:List Nat) (snap:Bool),aj.Nodup/\bn.length=aj.length/\(∀ (j:Nat) o,bn[j]?=some o->o=.gone\/σ.aa[aj.getD j 0]?=some (bM (bq σ.aa.length aj) o))/\(∀ i∈aj,i<σ.aa.length) /\
  n0<=aj.length/\(∀ i,i<n0->aj.getD i 0=i)/\aZ σ (λid=>∃ j,j<aj.length/\aj.getD j 0=id/\bn[j]?≠some .gone) (bq σ.aa.length aj) snap res v
def CC(P:Program)(n0:Nat)(rs:List ResultVar)(res:AV)(bn:List Ob):Exit->St->Prop
 |.normal,s=>dI s P rs λvs=>oK n0 s (dE vs) res bn
 |.ret,s=>dI s P rs λvs=>oK n0 s (dE vs) res bn
 |_,_=>False
def Holds.Lf {f : FuncId} {fn : Func} {c : Code} {args : List AV} {aa : List Ob} {res : AV} {bn : List Ob} (hf : P.funcs[f]? = some fn) (hb : fn.body = some c) (sN : (fn.name == "runtime.NumGoroutine") = false)
  (hN:args.length<=fn.ntmps) (h:W P fn.ntmps aa.length c (CC P aa.length fn.results.toList res bn) ⟨λk=>args.getD k .undef,aa⟩):Holds P f args aa res bn:=by
 refine⟨⟨fn,hf,sN,by rw[hb];rfl⟩,?_⟩;intro γ aP hs;refine calls_of_wp hf hb ?_
 let tm:=γ.tmps++Array.replicate (fn.ntmps-γ.tmps.size) Go.undef
 have ax:fX fn.ntmps aa γ ⟨λk=>args.getD k .undef,aa⟩ { tmps:=tm,defers:=[] } γ.w:=by
  refine⟨rfl,by simp[tm];omega,{ γ with tmps:=tm },rfl,rfl,⟨λk=>?_,hs.dT,hs.inj,hs.nz,hs.gG,hs.gl⟩,(Fr.refl _ _).put _⟩;rcases dP k args.length with hk|hk
  ·have:=hs.ao k;have e:tm.getD k Go.undef=γ.tmps.getD k Go.undef:=by
    simp only[tm,eL];rw[GD GK]
   show aw _ _ _ _ _ (tm.getD k Go.undef);rw[e];exact this
  ·have e:args.getD k AV.undef=.undef:=by simp[hk]
   show aw _ _ _ _ (args.getD k .undef) _;rw[e];exact .undef _
 refine wp_mono (h aa γ _ γ.w rfl ax) ?_;rintro e a' w'⟨σ',h1,il,_,aA,rfl,ha,iO,fF⟩;have fin:∀ (K:List AV->Prop),dI σ' P fn.results.toList K->(∀ vs,K vs->oK aa.length σ' (dE vs) res bn) ->
   a'.defers=[]/\∃ v,(results fn a'.tmps).run P aA.w=.ok v aA.w/\∃ cv jJ,Ending.returned v=.returned cv/\jJ.w=aA.w/\jJ.tmps = #[cv]/\bx ⟨λk=>[res].getD k .undef,bn⟩ jJ/\Fr aa γ bn jJ:=by
  intro K hK Lh;obtain⟨vs,bm,k1,k2,k3,k4,k5⟩:=Hk iO _ _ hK;obtain⟨aj,snap,r1,r2,r3,r4,r5,r6,r7⟩:=Lh vs k1;refine⟨il,?_⟩;have eT :∃v,(results fn a'.tmps).run P aA.w=.ok v aA.w/\aw σ'.aa aA.w aA.Z aA.blk (dE vs) v:=by
   have hm:(fn.results.mapM λ(r:ResultVar)=>match r with|.tmp t=>(pure (a'.tmps.getD t Go.undef):Sem Value)|.cell a t=>do loadVar t (← asAddr (a'.tmps.getD a Go.undef))).run P aA.w=.ok bm.toArray aA.w:=by
    rw[Array.mapM_eq_mapM_toList,Sem.run_map,<- ha,k2];rfl
   have hr:(results fn a'.tmps).run P aA.w=.ok (if h:bm.toArray.size=1 then bm.toArray[0] else .tuple bm.toArray) aA.w:=by
    unfold results;rw[Sem.run_bind];exact congrArg (λr=>Result.andThen r λ(a:Array Value) w'=>(pure (if h:a.size=1 then a[0] else Value.tuple a):Sem Value).run P w') hm
   rw[hr]
   match vs,bm,k3,k5 with
   |[],[],_,k5=>exact⟨_,rfl,.bD _ _ rfl (λj x hj=>by simp at hj)⟩
   |[v],[cv],_,k5=>exact⟨cv,GM,by simpa [dE] using k5 0 v rfl⟩
   |v::v'::vs,cv::qn::bm,k3,k5 =>
    refine⟨.tuple (cv::qn::bm).toArray,GM,.bD _ _ (by simpa using k3) (λj x hj=>?_)⟩;have:=k5 j x hj;simpa [az,eL] using this
  obtain⟨v,np,zq⟩:=eT;obtain⟨jJ,e1,e2,e3,e4⟩:=iO.select aj snap bn r1 r2 r3 r4 (λk=>[res].getD k .undef) #[v] (λk=>by
   cases k with
   |zero=>exact .inr ⟨_,r7,by simpa using zq⟩
   |succ k=>left;simp)
  exact⟨v,np,v,jJ,rfl,e1,e2,e3,fF.select r5 r2 r6 e1 e4⟩
 cases e with
 |normal=>exact fin _ h1 (λ_ h=>h)
 |ret=>exact fin _ h1 (λ_ h=>h)
 |exit id=>exact h1.elim
 |goto l=>exact h1.elim
 |panic c=>exact h1.elim
 |outgrown=>exact h1.elim
theorem Holds.aM {f:FuncId} {fn:Func} {c:Code} {args:List AV} {aa:List Ob} {res:AV} {bn:List Ob} (N k:Nat) (rs:List ResultVar) (hf:P.funcs[f]?=some fn) (h:W P N k c (CC P k rs res bn) ⟨fun k=>args.getD k .undef,aa⟩) (hb:fn.body=some c:=by rfl) (sN:(fn.name=="runtime.NumGoroutine")=false:=by rfl) (hN:fn.ntmps=N:=by rfl) (zr:fn.results.toList=rs:=by rfl) (hk:aa.length=k:=by rfl) (hl:args.length<=N:=by simp):Holds P f args aa res bn:=by
 subst hN;subst zr;subst hk;exact Holds.Lf hf hb sN hl h
def W_k{x y:Code}(h:∀ Q':Exit->St->Prop,(∀ s,W P N n0 y Q s->Q' .normal s)->(∀ e s,e≠.normal->Q e s->Q' e s)->W P N n0 x Q' σ):W P N n0 (.seq x y) Q σ :=
 G3 (h _ (λ_ h=>h) (λe s he hq=>by cases e<;>first|exact absurd rfl he|exact hq))
def Li{id:Nat}{ops:Array Oper}{y:Code}(hd:fq N ops=true)(h:∀ K:St->Prop,(∀ s,W P N n0 y Q s->K s)->opsL P ops ops.toList K σ):W P N n0 (.seq (.region id ops false) y) Q σ :=
 G3 (RC hd (h _ (λ_ h=>h)))
def R6{ops:Array Oper}{K:St->Prop}:opsL P ops [] K σ=K σ:=rfl
def R7{ops:Array Oper}{o:Oper}{r:List Oper}{K:St->Prop}:opsL P ops (o::r) K σ =
  match o.guard with
  |none=>aL P o σ (opsL P ops r K)
  |some (j,want) =>
   match (ops[j]?).bind (·.dst) with
   |none=>False
   |some d =>
    match σ.env d with
    |.lit (.bool b)=>pB P o (opsL P ops r K) b want σ
    |.lit (.tuple vs)=>vs = #[]/\opsL P ops r K (σ.put o.dst (.lit (.tuple #[])))
    |_=>False:=rfl
def R8{o:Oper}{K:St->Prop}:pB P o K true true σ=aL P o σ K:=by simp[pB]
def R9{o:Oper}{K:St->Prop}:pB P o K false false σ=aL P o σ K:=by simp[pB]
def Sa{o:Oper}{K:St->Prop}:pB P o K true false σ=K (σ.put o.dst (.lit (.tuple #[]))):=by simp[pB]
def Sb{o:Oper}{K:St->Prop}:pB P o K false true σ=K (σ.put o.dst (.lit (.tuple #[]))):=by simp[pB]
def afc{o:Oper}{K:St->Prop}{b want:Bool}(h1:b=true->pB P o K true want σ)(h2:b=false->pB P o K false want σ):pB P o K b want σ:=by
 cases b
 ·exact h2 rfl
 ·exact h1 rfl
def clr(ds:List Nat)(e:Nat->AV):Nat->AV:=λk=>if ds.contains k then .undef else e k
def Hl{ds:List Nat}{e:Nat->AV}{k:Nat}:clr ds e k=if ds.contains k then .undef else e k:=rfl
def afe(e:Nat->AV)(d:Nat)(v:AV):jH e d v d=v:=by simp[jH]
mutual
def kZ:AV->Bool
 |.ref ..=>false
 |.ptr ..=>false
 |.agg cs=>mH cs
 |.bD cs=>mH cs
 |.fn _ cs=>mH cs
 |.iC _ v=>kZ v
 |.dD _=>false
 |_=>true
def mH:List AV->Bool
 |[]=>true
 |v::vs=>kZ v&&mH vs
end
mutual
def AI(ρ:Nat->Nat):∀ (v:AV),kZ v=true->bk ρ v=v
 |.undef,_=>rfl
 |.lit _,_=>rfl
 |.tree ..,_=>rfl
 |.cB _,_=>rfl
 |.ref ..,h=>by simp[kZ]at h
 |.ptr ..,h=>by simp[kZ]at h
 |.agg cs,h=>by simp only[kZ]at h;simp only[bk];rw[Cr ρ cs h]
 |.bD cs,h=>by simp only[kZ]at h;simp only[bk];rw[Cr ρ cs h]
 |.fn f cs,h=>by simp only[kZ]at h;simp only[bk];rw[Cr ρ cs h]
 |.iC t v,h=>by simp only[kZ]at h;simp only[bk];rw[AI ρ v h]
 |.dD _,h=>by simp[kZ]at h
def Cr(ρ:Nat->Nat):∀ (l:List AV),mH l=true->ql ρ l=l
 |[],_=>rfl
 |v::vs,h=>by
  simp only[mH,bb]at h;simp only[ql];rw[AI ρ v h.1,Cr ρ vs h.2]
end
def aff{l:List AV}(h:mH l=true){j:Nat}{x:AV}(hx:l[j]?=some x):kZ x=true:=by
 induction l generalizing j with
 |nil=>simp at hx
 |cons v l ih =>
  simp only[mH,bb]at h;cases j with
  |zero=>simp at hx;subst hx;exact h.1
  |succ j=>exact ih h.2 (by simpa using hx)
def b7{f:FuncId}{args:List AV}{dst:Option Tmp}{K:St->Prop}{res:AV}(h:Holds P f args [] res [])(ha:mH args=true)(hr:kZ res=true)(hK:K (σ.put dst res)):tP P f args dst K σ:=by
 refine⟨[],false,args,[],res,[],h,⟨GG,rfl,GM,rfl,?_,GM⟩,?_⟩
 ·intro j c d hc hd;rw[hc]at hd;simp at hd;subst hd;have:=aZ.same (σ:=σ) (kp:=(·∈([]:List Nat))) (ρ:=bq σ.aa.length []) (snap:=false) c;rw[AI _ c (aff ha hc)]at this;exact this
 ·rw[AI _ _ hr];simpa [e8] using hK
def KR{v:AV}(hr:kZ v=true):oK 0 σ v v []:=by
 refine⟨[],false,GG,rfl,GM,GM,aY _,GM,?_⟩;have:=aZ.same (σ:=σ) (kp:=λid=>∃ j,j<([]:List Nat).length/\([]:List Nat).getD j 0=id/\([]:List Ob)[j]?≠some .gone) (ρ:=bq σ.aa.length []) (snap:=false) v;rw[AI _ _ hr]at this;exact this
end Go.Am
namespace Go.Am
variable {P:Program}
def cls:Op->Nat
 |.move _|.assign _|.pick ..|.convert ..|.binOp ..|.unOp ..|.makeFunc ..|.makeInterface ..|.typeAssert ..|.field ..|.extract ..|.build ..|.index ..=>0
 |.call { callee:=.builtin .min,.. }|.call { callee:=.builtin .max,.. }=>0
 |.nilCheck _|.fieldAddr ..|.indexAddr ..|.slice ..=>1
 |.call { callee:=.builtin .len,.. }=>1
 |.load ..|.lookup ..=>2
 |.alloc _|.box ..|.makeSlice ..|.buildSlice ..|.makeMap ..=>3
 |.store ..=>4
 |_=>5
def ve:Ob->Ob->Prop
 |.var _,.var _=>True
 |.arr s _,.arr s' _=>s=s'
 |.mp a L,.mp b M=>a=b/\L=M
 |.gone,.gone=>True
 |_,_=>False
def zi(o:Ob):ve o o:=by cases o<;>simp[ve]
def k0(c:Nat)(a b:List Ob):Prop :=
 if c<=2 then b=a
 else if c=3 then ∀ (id:Nat),id<a.length->b[id]?=a[id]?
 else if c=4 then b.length=a.length/\∀ (id:Nat) o o',a[id]?=some o->b[id]?=some o'->ve o o'
 else True
def afg(c:Nat)(h:c<=2)(a:List Ob):k0 c a a:=by simp[k0,h]
def Hm(a:List Ob)(o:Ob):k0 3 a (a++[o]):=by
 simp only[k0];intro id h;exact eZ h
def afh(σ:St)(id r:Nat)(row:List AV):k0 4 σ.aa (pg σ id r row).aa:=by
 simp only[k0];rw[if_neg GS,if_neg GS,if_pos trivial];have key:∀ (x y:Ob),σ.aa[id]?=some x->ve x y->(σ.aa.set id y).length=σ.aa.length/\∀ (i:Nat) o o',σ.aa[i]?=some o->(σ.aa.set id y)[i]?=some o'->ve o o':=by
  intro x y hx ri;refine⟨GM,λi o o' ho cm=>?_⟩;rw[List.getElem?_set]at cm;split at cm
  ·rename_i e;subst e;split at cm
   ·simp at cm;subst cm;rw[hx]at ho;simp at ho;subst ho;exact ri
   ·simp at cm
  ·rw[ho]at cm;simp at cm;subst cm;exact zi o
 unfold pg;split
 ·rename_i cells h;exact key _ _ h trivial
 ·rename_i sz rows h;exact key _ _ h rfl
 ·exact⟨rfl,λi o o' ho cm=>by rw[ho]at cm;simp at cm;subst cm;exact zi o⟩
def pC:AV->Option Nat
 |.ref id _ _ _=>some id
 |.ptr id _ _=>some id
 |.dD id=>some id
 |_=>none
def im(c:Nat)(a b:Option Ob):Prop :=
 if c=0 then True else if c=1 then ∀ o,a=some o->∃ o',b=some o'/\ve o o' else ∀ o,a=some o->b=some o
def rj(c:Nat)(l:List Operand)(σ:St)(e2:Nat->AV)(ob:List Ob):Prop :=
 (∀ x∈l,ev ⟨e2,ob⟩ x=ev σ x)/\(∀ x∈l,∀ id,pC (ev σ x)=some id->im c σ.aa[id]? ob[id]?)
def Lj(P:Program)(o:Oper)(σ:St)(K:St->Prop)(c:Nat)(l:List Operand):Prop :=
 ∃ v os,k0 c σ.aa os/\K ((⟨σ.env,os⟩:St).put o.dst v)/\∀ e2 ob os2 (K2:St->Prop),rj c l σ e2 ob->(if c<=2 then os2=ob else ob=σ.aa/\os2=os)->K2 ((⟨e2,os2⟩:St).put o.dst v)->cd P o ⟨e2,ob⟩ K2
theorem dA{o:Oper}{σ:St}{K:St->Prop}{c:Nat}{l:List Operand}{v:AV}(hW:K (σ.put o.dst v))(h:∀ e2 ob (K2:St->Prop),rj c l σ e2 ob->K2 ((⟨e2,ob⟩:St).put o.dst v)->cd P o ⟨e2,ob⟩ K2)(hc:c<=2:=by simp[cls]):Lj P o σ K c l :=
 ⟨v,σ.aa,afg _ hc _,hW,fun e2 ob os2 K2 hx ho ed=>h e2 ob K2 hx (by rw[if_pos hc]at ho;subst ho;exact ed)⟩
def dB{o:Oper}{σ:St}{K:St->Prop}{c:Nat}{l:List Operand}{v:AV}{os:List Ob}(hc:3<=c)(he:k0 c σ.aa os)(hW:K ((⟨σ.env,os⟩:St).put o.dst v))(h:∀ e2 (_:List Ob) (K2:St->Prop),rj 0 l σ e2 σ.aa->K2 ((⟨e2,os⟩:St).put o.dst v)->cd P o ⟨e2,σ.aa⟩ K2):Lj P o σ K c l :=
 ⟨v,os,he,hW,λe2 ob os2 K2 hx ho ed=>by rw[if_neg GK]at ho;obtain⟨rfl,rfl⟩:=ho;exact h e2 σ.aa K2 ⟨hx.1,λ_ _ _ _=>by simp[im]⟩ ed⟩
def parts_eq{parts:Array (Nat×Operand)}{σ τ:St}(h:∀ x∈parts.toList.map (·.2),ev τ x=ev σ x):
  (parts.toList.map λp=>(p.1,ev τ p.2))=(parts.toList.map λp=>(p.1,ev σ p.2))/\(parts.toList.all λp=>(cellsOf (ev τ p.2)).all c8)=(parts.toList.all λp=>(cellsOf (ev σ p.2)).all c8):=by
 have hp:(parts.toList.map λp=>(p.1,ev τ p.2))=(parts.toList.map λp=>(p.1,ev σ p.2)):=tI λp hp=>by rw[h _ (DT hp)]
 exact⟨hp,by simpa [List.all_map,Function.comp_def] using congrArg (·.all λq=>(cellsOf q.2).all c8) hp⟩
def Rn{t:Ty}{cells:List AV}{c:Nat}{K:AV->Prop}(h:nh t cells c K):∃v,K v/\∀ K2:AV->Prop,K2 v->nh t cells c K2:=by
 unfold nh at h ⊢;split at h
 ·exact⟨_,h.2,λK2 hK=>by simp_all⟩
 ·split at h<;>first|exact h.elim|exact⟨_,h,λK2 hK=>by simp_all⟩
def afi{k:IntKind}{p q:Int}{K:Value->Prop}(h:wQ k p q K):∃v,K v/\∀ K2:Value->Prop,K2 v->wQ k p q K2:=by
 by_cases hk:k=.u64
 ·rw[wQ,if_pos hk]at h;exact⟨_,h,λK2 h2=>by rw[wQ,if_pos hk];exact h2⟩
 ·rw[wQ,if_neg hk]at h;exact⟨_,h.2,λK2 h2=>by rw[wQ,if_neg hk];exact⟨h.1,h2⟩⟩
def afj{k:IntKind}{p:Int}{K:Value->Prop}(h:u9 k p K):∃v,K v/\∀ K2:Value->Prop,K2 v->u9 k p K2:=by
 by_cases hk:k=.u64
 ·rw[u9,if_pos hk]at h;exact⟨_,h,λK2 h2=>by rw[u9,if_pos hk];exact h2⟩
 ·rw[u9,if_neg hk]at h;exact⟨_,h.2,λK2 h2=>by rw[u9,if_neg hk];exact⟨h.1,h2⟩⟩
def afk{op:BinOp}{k:IntKind}{p q:Int}{K:Value->Prop}(h:gU op k p q K):∃v,K v/\∀ K2:Value->Prop,K2 v->gU op k p q K2:=by
 unfold gU at h ⊢;split at h<;>first|exact afi h|exact⟨_,h.2,λK2 h'=>⟨h.1,h'⟩⟩|exact⟨_,h,λK2 h=>h⟩|exact h.elim
def afl{σ:St}{e:Nat->AV}{ob:List Ob}{id r:Nat}{row:List AV}(h:∀ o,σ.aa[id]?=some o->ob[id]?=some o)(hr:rowOf σ id r=some row):rowOf ⟨e,ob⟩ id r=some row:=by
 unfold rowOf at hr ⊢;cases ho:σ.aa[id]?<;>simp_all
def afm{σ:St}{e:Nat->AV}{ob:List Ob}{v:AV}{q:Nat×Nat×List (List Int×AV)}(h:∀ id,v=.dD id->∀ o,σ.aa[id]?=some o->ob[id]?=some o)(hm:mG σ v=some q):mG ⟨e,ob⟩ v=some q:=by
 unfold mG at hm ⊢;split at hm
 ·rename_i id;split at hm
  ·rename_i ag L ho;have:=h id rfl _ ho;simp only[this];exact hm
  ·cases hm
 ·cases hm
def Sd{o:Oper}{σ:St}{K:St->Prop}(hW:cd P o σ K):Lj P o σ K (cls o.op) o.op.operands.toList:=by
 obtain⟨dst,op,type,pos,after,guard⟩:=o;unfold cd at hW;cases op
 case call c =>
  obtain⟨callee,args,argTypes⟩:=c;cases callee<;>try exact hW.elim
  rename_i b;cases b<;>try exact hW.elim
  all_goals simp only at hW
  case append =>
   (repeat' split at hW)<;>try exact hW.elim
   rename_i s x t t' b6 ka _ _ _ _ z pre σ1 sz src hk hz nW rm;have uc:σ1=⟨σ.env,σ1.aa⟩/\∀ e,lW ⟨e,σ.aa⟩ (ty P (ty P t).elem).size (ev σ s)=some (pre,⟨e,σ1.aa⟩):=by
    unfold lW at nW ⊢;(repeat' split at nW)<;>simp_all
    all_goals obtain⟨rfl,rfl⟩:=nW;simp
   refine dB (os:=σ1.aa++[.arr sz (pre++src)]) (by simp[cls]) trivial (by have:=hW.2;rw[uc.1]at this;exact this) λe2 ob K2 hx ed=>?_;have kC:oJ ⟨e2,σ.aa⟩ (ev σ x)=some (sz,src):=rm;unfold cd;simp[rj,Op.operands,Call.operands,b6]at hx;simp only[b6,ka,hx.1.1,hx.1.2,hk,hz,uc.2,kC];exact⟨hW.1,ed⟩
  case copy =>
   (repeat' split at hW)<;>try exact hW.elim
   rename_i b6 ka _ _ id _ _ _ _ src he rm _ _ _ ho;refine dB (by simp[cls]) trivial hW.2 λe2 ob K2 hx ed=>?_;have kC:oJ ⟨e2,σ.aa⟩ _=_:=rm;unfold cd;simp[rj,Op.operands,Call.operands,b6]at hx;simp only[b6,ka,hx.1.1,hx.1.2,he,kC,ho];exact⟨hW.1,ed⟩
  case clear =>
   (repeat' split at hW)<;>try exact hW.elim
   rename_i b6 ka _ _ id _ _ _ _ he hz _ _ _ ho;refine dB (by simp[cls]) trivial hW.2 λe2 ob K2 hx ed=>?_;unfold cd;simp[rj,Op.operands,Call.operands,b6]at hx;simp only[b6,ka,hx,he,hz,ho];exact⟨hW.1,ed⟩
  all_goals(repeat' split at hW)<;>first|exact hW.elim|exact hW.2.elim|refine dA hW ?_|refine dA hW.2 ?_|refine dA hW.2.2 ?_
  all_goals
   intro e2 ob K2 hx ed;unfold cd;simp[rj,Op.operands,Call.operands,pC,im,cls, *]at hx ⊢;first|done|(simp_all;done)|(obtain⟨_,o',_,hk⟩:=hx;cases o'<;>simp_all [ve];done)
 case load t x =>
  simp only at hW;obtain⟨hk,hW⟩:=hW;(repeat' split at hW)<;>try exact hW.elim
  all_goals
   obtain⟨v,hK,hl⟩:=Rn hW;refine dA hK λe2 ob K2 hx ed=>?_;unfold cd;simp[rj,Op.operands,pC,im,cls, *]at hx;first|simp only[hx.1,afl hx.2 ‹rowOf _ _ _=_›]|simp only[hx]
   exact⟨hk,hl _ ed⟩
 case store t x y =>
  simp only at hW;obtain⟨hk,hW⟩:=hW;(repeat' split at hW)<;>try exact hW.elim
  rename_i id r c he _ row bL;have uc:∀ row,pg σ id r row=⟨σ.env,(pg σ id r row).aa⟩/\∀ e,pg ⟨e,σ.aa⟩ id r row=⟨e,(pg σ id r row).aa⟩:=by
   intro row;unfold pg;simp only;split<;>simp_all
  refine dB (by simp[cls]) (afh _ _ _ _) (by have:=hW.2;rw[(uc _).1]at this;exact this) λe2 ob K2 hx ed=>?_;have kh:rowOf ⟨e2,σ.aa⟩ id r=some row:=bL;unfold cd;simp only[hx.1 x (by simp[Op.operands]),hx.1 y (by simp[Op.operands]),he,kh];rw[(uc _).2];exact⟨hk,hW.1,ed⟩
 case build t parts =>
  simp only at hW;(repeat' split at hW)<;>first|exact hW.elim|refine dA hW.2 ?_
  all_goals
   intro e2 ob K2 hx ed;obtain⟨h1,h2⟩:=parts_eq (parts:=parts) (by simpa [Op.operands] using hx.1);unfold cd;simp only[h1,h2, *];simp[hW.1]
 case buildSlice t _ parts =>
  simp only at hW;(repeat' split at hW)<;>first|exact hW.elim|refine dB (aY 3) (Hm _ _) hW.2 ?_
  intro e2 ob K2 hx ed;obtain⟨h1,h2⟩:=parts_eq (parts:=parts) (by simpa [Op.operands] using hx.1);unfold cd;simp only[h1,h2, *];simp[hW.1]
 case makeFunc fn first captured =>
  simp only at hW;split at hW<;>first|exact hW.elim|refine dA hW.2 λe2 ob K2 hx ed=>?_
  unfold cd;simp only[tI (l:=captured.toList) (f:=ev ⟨e2,ob⟩) (g:=ev σ) λy hy=>hx.1 y (by simp only[Op.operands,B9,List.mem_append];exact .inr hy)];exact⟨hW.1,ed⟩
 case unOp op t x =>
  simp only at hW;split at hW
  ·rename_i b he;refine dA hW λe2 ob K2 hx ed=>?_;unfold cd;simp[rj,Op.operands]at hx;simp only[hx.1,he];exact ed
  ·rename_i k p he;obtain⟨v,hK,hl⟩:=afj hW;refine dA hK λe2 ob K2 hx ed=>?_;unfold cd;simp[rj,Op.operands]at hx;simp only[hx.1,he];exact hl _ ed
  ·exact hW.elim
 case binOp op t x y yt =>
  simp only at hW;split at hW
  ·rename_i k p k' q he hf;obtain⟨hk,hW⟩:=hW;obtain⟨v,hK,hl⟩:=afk hW;refine dA hK λe2 ob K2 hx ed=>?_;unfold cd;simp[rj,Op.operands,he,hf]at hx;simp only[hx.1.1,hx.1.2];exact⟨hk,hl _ ed⟩
  all_goals(repeat' split at hW)<;>first|exact hW.elim|exact hW.2.elim|refine dA hW.2 ?_
  all_goals
   intro e2 ob K2 hx ed;unfold cd;simp[rj,Op.operands, *]at hx ⊢;first|done|(simp_all;done)
 case slice t x lo hi mx =>
  simp only at hW;obtain⟨hk,ec,rfl,hW⟩:=hW;cases lo<;>cases hi<;>simp only[eH,Option.map_none]at hW;all_goals(repeat' split at hW)<;>first|exact hW.elim|exact hW.2.elim|exact hW.2.2.elim|refine dA hW.2 ?_|refine dA hW.2.2 ?_|refine dA hW.2.2.2 ?_
  all_goals
   intro e2 ob K2 hx ed;unfold cd;simp only[cA.injEq]at *;simp[rj,Op.operands,pC,im,cls, *]at hx ⊢;first|done|(simp_all;done)|(obtain⟨_,o',_,hk⟩:=hx;cases o'<;>simp_all [ve];done)|(obtain⟨_,⟨o',_,hk⟩,_⟩:=hx;cases o'<;>simp_all [ve];done)|trace_state
 case makeMap t r =>
  simp only at hW;obtain⟨⟨rfl,hk⟩,hK⟩:=hW;refine dB (aY 3) (Hm _ _) hK λe2 ob K2 hx ed=>?_;unfold cd;exact⟨⟨rfl,hk⟩,ed⟩
 case lookup t x i ok =>
  simp only at hW;split at hW
  ·rename_i ag l id jb L z fD nq oR;refine dA hW.2 λe2 ob K2 hx ed=>?_;have h1:=hx.1 x (by simp[Op.operands]);have h2:=hx.1 i (by simp[Op.operands]);have h3:mG ⟨e2,ob⟩ (ev σ x)=some (id,jb,L):=afm (λpx bX o ho=>by
    have:=hx.2 x (by simp[Op.operands]) px (by rw[bX];rfl);unfold im at this;simp[cls]at this;exact this o ho) nq
   unfold cd;simp only[h1,h2,fD,h3,oR];exact⟨hW.1,ed⟩
  ·exact hW.elim
 case mapUpdate t m k x =>
  simp only at hW;split at hW
  ·rename_i fD nq;obtain⟨mM,Eh⟩:=hW;refine dB (v:=.undef) (os:=_) (by simp[cls]) trivial Eh λe2 ob K2 hx ed=>?_;have h1:=hx.1 m (by simp[Op.operands]);have h2:=hx.1 k (by simp[Op.operands]);have h3:=hx.1 x (by simp[Op.operands]);have h4:mG ⟨e2,σ.aa⟩ (ev σ m)=_:=nq;unfold cd;simp only[h1,h2,h3,fD,h4];exact⟨mM,ed⟩
  ·exact hW.elim
 case mapEntry t m k =>
  simp only at hW;split at hW
  ·rename_i fD nq oR;obtain⟨mM,Eh⟩:=hW;refine dB (v:=_) (os:=_) (by simp[cls]) trivial Eh λe2 ob K2 hx ed=>?_;have h1:=hx.1 m (by simp[Op.operands]);have h2:=hx.1 k (by simp[Op.operands]);have h4:mG ⟨e2,σ.aa⟩ (ev σ m)=_:=nq;unfold cd;simp only[h1,h2,fD,h4,oR];exact⟨mM,ed⟩
  ·exact hW.elim
 case entryStore t m s x =>
  simp only at hW;split at hW
  ·rename_i hs nq;obtain⟨mM,Eh⟩:=hW;refine dB (v:=.undef) (os:=_) (by simp[cls]) trivial Eh λe2 ob K2 hx ed=>?_;have h1:=hx.1 m (by simp[Op.operands]);have h2:=hx.1 s (by simp[Op.operands]);have h3:=hx.1 x (by simp[Op.operands]);have h4:mG ⟨e2,σ.aa⟩ (ev σ m)=_:=nq;unfold cd;simp only[h1,h2,h3,hs,h4];exact⟨mM,ed⟩
  ·exact hW.elim
 all_goals(try simp only at hW);(try exact hW.elim)
 all_goals(repeat' split at hW)<;>first|exact hW.elim|exact hW.2.elim|exact hW.2.2.elim|refine dA hW ?_|refine dA hW.2 ?_|refine dA hW.2.2 ?_|refine dA hW.2.2.2 ?_|refine dB (aY 3) (Hm _ _) hW.2 ?_|refine dB (aY 3) (Hm _ _) hW.2.1 ?_
 all_goals
  intro e2 ob K2 hx ed;unfold cd;simp[rj,Op.operands,pC,im,cls,-fW, *]at hx ⊢;first|done|(simp_all;done)|(obtain⟨_,rfl,_⟩:=hW;simp_all;done)|(obtain⟨_,o',_,hk⟩:=hx;cases o'<;>simp_all [ve];done)
def aeC{o:Oper}{σ:St}{K:St->Prop}(hW:cd P o σ K):
  ∃ v os,k0 (cls o.op) σ.aa os/\K ((⟨σ.env,os⟩:St).put o.dst v)/\∀ (e2:Nat->AV) (K2:St->Prop),(∀ x∈o.op.operands.toList,ev ⟨e2,σ.aa⟩ x=ev σ x)->K2 ((⟨e2,os⟩:St).put o.dst v)->cd P o ⟨e2,σ.aa⟩ K2:=by
 obtain⟨v,os,h1,h2,h3⟩:=Sd hW;refine⟨v,os,h1,h2,λe2 K2 hx hK=>h3 e2 _ os K2 ⟨hx,λ_ _ _ _=>?_⟩ ?_ hK⟩
 ·unfold im;(repeat' split)<;>first|trivial|exact λo ho=>ho|exact λo ho=>⟨o,ho,zi o⟩
 ·split
  ·rename_i hc;simpa [k0,hc] using h1
  ·exact⟨rfl,rfl⟩
def Ro{o:Oper}{σ:St}{K:St->Prop}(hc:cls o.op<=2)(hW:cd P o σ K):
  ∃ v,K (σ.put o.dst v)/\∀ (σ2:St) (K2:St->Prop),(∀ x∈o.op.operands.toList,ev σ2 x=ev σ x)->(∀ x∈o.op.operands.toList,∀ id,pC (ev σ x)=some id->im (cls o.op) σ.aa[id]? σ2.aa[id]?) ->
   K2 (σ2.put o.dst v)->cd P o σ2 K2:=by
 obtain⟨v,os,h1,h2,h3⟩:=Sd hW;simp only[k0,hc,if_true]at h1 h3;subst h1;exact⟨v,h2,λσ2 K2 hx ho hK=>h3 σ2.env σ2.aa _ K2 ⟨hx,ho⟩ rfl hK⟩
end Go.Am

